import Derived.Test.YtdmcmlajpajaaaaSr5
import Derived.Test.YtdmcmlajpajaaaaSm1
import Derived.Deep.RegionHeld3
namespace Go.Proofs.Ytdmcmlajpajaaaa
open Go.RowKit Go.Sx
theorem rnd_endN {w1 w4 : World} {base g cap i j z : Nat} {V : Nat → Int} {L : BL} {lk2 : Int} (hlt : j < z) (hO : OwnC w4 base g cap (fun k => if k = 4 * i + 2 then lk2 else V k) (sL L)) (hV : ∀ k, k < 256 → 0 ≤ (if k = 4 * i + 2 then lk2 else V k) ∧ (if k = 4 * i + 2 then lk2 else V k) ≤ 255)
    (hE : ∀ k, k ≠ 4 * i + 2 → V k = vL L k) (hb : Below base w1 w4) : (∃ (j' : Nat) (V : Nat → Int), j' ≤ z ∧ Value.int .i64 ((j : Int) + 1) = .int .i64 j' ∧ OwnC w4 base g cap V (sL L) ∧ (∀ k, k < 256 → 0 ≤ V k ∧ V k ≤ 255) ∧ (∀ k, k ≠ 4 * i + 2 → V k = vL L k) ∧ Below base w1 w4) ∧ z - (intOf (.int .i64 ((j : Int) + 1))).toNat < z - (intOf (.int .i64 (j : Int))).toNat := by
  refine ⟨⟨j + 1, _, by omega, by simp, hO, hV, fun k hk => ?_, hb⟩, by simp [intOf]; omega⟩
  show (if _ then _ else _) = _
  rw [if_neg hk]
  exact hE k hk
set_option maxRecDepth 100000 in
set_option maxHeartbeats 60000000 in
theorem rows_false (ao : Option Addr) (n cap : Nat) (L : BL) (i : Nat) (line lv hv x : Int) (tb ls hs : Bool) (w : World) (hc : n ≤ cap) (hn : min n 257 = L.length) (hnil : ao = none → L.length = 0 ∧ cap = 0) (hL : RowL w ao L) (h256 : L.length = 256) (hi64 : i < 64) (hl0 : 0 ≤ line) (hl1 : line ≤ 255)
    (hV : ∀ k, k < 256 → 0 ≤ vL L k ∧ vL L k ≤ 255) :
    Calls Try.prog 4 #[.slice ao n cap, .agg #[.int .i64 i, .int .i64 line, .bool false, .bool tb, .int .u8 lv, .bool ls, .int .u8 hv, .bool hs, .int .i64 x]] w fun e w' => e = .returned (.bool true) ∧ Below w.heap.size w w' := by
  have HN := hidI hn; clear hn
  have HM : Hid (mayB L.length i line = true) := by show mayB _ _ _ = true; unfold mayB; rw [decide_eq_true_iff]; omega
  have hl : L.length ≤ 257 := by omega
  have H256 := hidI h256; clear h256
  go_enter Try.func4, Try.ntmps4
  go_wp2_with fail
  refine (few2 ao cap n L _ hc HN.out).mono ?_
  rintro e w1 ⟨rfl, rfl⟩
  have b0 : Below w.heap.size w ((w.alloc (.cells #[.int .i64 i, .int .i64 line, .bool false, .bool tb, .int .u8 lv, .bool ls, .int .u8 hv, .bool hs, .int .i64 x] 26)).alloc (.cells #[] 24)) := ((Below.refl _ _).alloc (Nat.le_refl _) _).alloc (by simp) _
  have on := own_new (w.alloc (.cells #[.int .i64 i, .int .i64 line, .bool false, .bool tb, .int .u8 lv, .bool ls, .int .u8 hv, .bool hs, .int .i64 x] 26)) (w.heap.size + 1) (by simp)
  go_wp2_with (first
    | (at_builtin; refine app_law rfl (.tmp 14) (.tmp 16) rfl (L := []) (M := L) (by simp; rfl) on ao cap rfl rfl rfl hnil (RowAt.below hL b0) (by simp; omega) (by simp) ?_; intro g c1 w1 h1 _ hg1 _; rw [List.nil_append] at h1; have b1 : Below (w.heap.size + 1) ((w.alloc (.cells #[.int .i64 i, .int .i64 line, .bool false, .bool tb, .int .u8 lv, .bool ls, .int .u8 hv, .bool hs, .int .i64 x] 26)).alloc (.cells #[] 24)) w1 := (Below.refl _ _).grown hg1 (by simp) (fun k hk => by cases hk; simp); obtain ⟨q0, q1, q2, q3, _, _, _, _, qs⟩ := ask_cells b1)
    | fail)
  refine (May_any _ _ _ _ _ _).mono ?_
  rw [HM.out]
  rintro e w2 ⟨rfl, rfl⟩
  have hcap := own_cap h1
  have hO := OwnC.of h1 H256.out
  have bw := b0.trans (b1.mono (by omega))
  rw [H256.out] at hcap ⊢
  clear h1 on hg1 HM
  obtain ⟨y, hy⟩ : ∃ y, y = vL L (4 * i) := ⟨_, rfl⟩
  have hy01 := hV (4 * i) (by omega)
  rw [← hy] at hy01
  obtain ⟨hy0, hy1⟩ := hy01
  have c0 : w1.cell? ⟨g, 4 * i * 2, none⟩ = some (.int .u8 y) := by rw [hy]; exact hO.cell (i := 4 * i) (by omega) (j := 0) (by omega)
  have HY := hidI hy; clear hy
  have HV := hidI hV; clear hV
  by_cases hyz : y + 8 ≤ 256
  · go_wp2_with fail
    go_loopw [7] (fun r wr => ∃ (j : Nat) (V : Nat → Int), j ≤ 8 ∧ r = .int .i64 j ∧ OwnC wr (w.heap.size + 1) g c1 V (sL L) ∧ (∀ k, k < 256 → 0 ≤ V k ∧ V k ≤ 255) ∧ (∀ k, k ≠ 4 * i + 2 → V k = vL L k) ∧ Below (w.heap.size + 1) w1 wr) (fun r _ => 8 - (intOf r).toNat)
    case atStart => exact ⟨0, _, Nat.zero_le _, rfl, hO, HV.out, fun k _ => rfl, Below.refl _ _⟩
    case round =>
      obtain ⟨j, V, hj, rfl, hOr, hVr, hVe, hbl⟩ := hrel
      clear c0 hO
      have HVR := hidI hVr; clear hVr
      have HVE := hidI hVe; clear hVe
      have p0 : wr.cell? ⟨w.heap.size, 0, none⟩ = some (.int .i64 i) := (hbl.cell (by show w.heap.size < _; omega)).trans q0
      have p1 : wr.cell? ⟨w.heap.size, 1, none⟩ = some (.int .i64 line) := (hbl.cell (by show w.heap.size < _; omega)).trans q1
      have p2 : wr.cell? ⟨w.heap.size, 2, none⟩ = some (.bool false) := (hbl.cell (by show w.heap.size < _; omega)).trans q2
      have p3 : wr.cell? ⟨w.heap.size, 3, none⟩ = some (.bool tb) := (hbl.cell (by show w.heap.size < _; omega)).trans q3
      by_cases hlt : j < 8
      · have cl : wr.cell? ⟨g, (4 * i + 2) * 2, none⟩ = some (.int .u8 (V (4 * i + 2))) := hOr.cell (i := 4 * i + 2) (by omega) (j := 0) (by omega)
        have fl := hOr.frozen ((4 * i + 2) * 2)
        have hgl := hOr.lt.1
        obtain ⟨a0, a1⟩ := and127 (V (4 * i + 2)) (HVR.out _ (by omega)).1 (HVR.out _ (by omega)).2
        obtain ⟨lk1, hlk1⟩ : ∃ l, l = bits BinOp.and IntKind.u8 (V (4 * i + 2)) 127 := ⟨_, rfl⟩
        rw [← hlk1] at a0 a1
        have hO1 := hOr.store (k := 4 * i + 2) lk1 (by omega)
        have hV1 : ∀ k, k < 256 → 0 ≤ (if k = 4 * i + 2 then lk1 else V k) ∧ (if k = 4 * i + 2 then lk1 else V k) ≤ 255 := fun k hk => by
          by_cases e : k = 4 * i + 2
          · rw [if_pos e]; omega
          · rw [if_neg e]; exact HVR.out k hk
        have hne : ⟨g, (4 * i + 2) * 2, none⟩ ≠ (⟨w.heap.size, 0, none⟩ : Addr) := by intro e; cases e
        have HLK := hidI hlk1
        clear hlk1
        go_wp2_with fail
        rw [← HLK.out]
        obtain ⟨A, hA⟩ : ∃ A, A = adr (V (4 * i)) (V (4 * i + 1)) lk1 (y + j) false tb := ⟨_, rfl⟩
        have hVy : V (4 * i) = y := (HVE.out _ (by omega)).trans HY.out.symm
        obtain ⟨r0, r1, r2, r3, r4⟩ := adr_row (V (4 * i)) (V (4 * i + 1)) lk1 (y + j) false tb j (by rw [hVy]; exact row_up y lk1 false j (by omega) (by show _ < (if _ then (16 : Int) else 8); simp; omega) (by omega)) (by omega) (by show _ < (if _ then (16 : Int) else 8); simp; omega) (HVR.out _ (by omega)).1 (HVR.out _ (by omega)).2
        have HVY := hidI hVy; clear hVy
        refine (adrD hO1 hcap i hi64 (y + j) (by omega) (by omega) hV1 false tb A (by rw [hA]; show adr (if _ then _ else _) (if _ then _ else _) (if _ then _ else _) _ _ _ = _; rw [if_neg (by omega), if_neg (by omega), if_pos rfl])).mono ?_
        rw [← hA] at r0 r1 r2 r3 r4
        have HA := hidI hA; clear hA
        rintro e w3 ⟨rfl, b3⟩
        rw [World.size_setCell] at b3
        have hO3 := hO1.below (w' := w3) (by rw [World.size_setCell]; exact b3)
        have hb3 : Below (w.heap.size + 1) w1 w3 := (hbl.setCell (p := ⟨g, (4 * i + 2) * 2, none⟩) hgl (.int .u8 lk1)).trans (b3.mono (by have := hbl.size; have := hOr.lt.2; omega))
        have p0' : w3.cell? ⟨w.heap.size, 0, none⟩ = some (.int .i64 i) := (hb3.cell (by show w.heap.size < _; omega)).trans q0
        have p1' : w3.cell? ⟨w.heap.size, 1, none⟩ = some (.int .i64 line) := (hb3.cell (by show w.heap.size < _; omega)).trans q1
        have p2' : w3.cell? ⟨w.heap.size, 2, none⟩ = some (.bool false) := (hb3.cell (by show w.heap.size < _; omega)).trans q2
        have p3' : w3.cell? ⟨w.heap.size, 3, none⟩ = some (.bool tb) := (hb3.cell (by show w.heap.size < _; omega)).trans q3
        have cl3 : w3.cell? ⟨g, (4 * i + 2) * 2, none⟩ = some (.int .u8 lk1) := (hO3.cell (i := 4 * i + 2) (by omega) (j := 0) (by omega)).trans (by show some (Value.int .u8 (if _ then _ else _)) = _; rw [if_pos rfl])
        have fl3 := hO3.frozen ((4 * i + 2) * 2)
        obtain ⟨d0, d1⟩ := or128 lk1 (by omega) (by omega)
        obtain ⟨lk2, hlk2⟩ : ∃ l, l = bits BinOp.or IntKind.u8 lk1 128 := ⟨_, rfl⟩
        rw [← hlk2] at d0 d1
        have hO4 := (hO3.store (k := 4 * i + 2) lk2 (by omega)).vals (V' := fun k => if k = 4 * i + 2 then lk2 else V k) (S' := sL L) (fun k _ => ⟨by show (if _ then _ else (if _ then _ else _)) = (if _ then _ else _); split <;> rfl, rfl⟩)
        have hV4 : ∀ k, k < 256 → 0 ≤ (if k = 4 * i + 2 then lk2 else V k) ∧ (if k = 4 * i + 2 then lk2 else V k) ≤ 255 := fun k hk => by
          by_cases e : k = 4 * i + 2
          · rw [if_pos e]; omega
          · rw [if_neg e]; exact HVR.out k hk
        have HLK2 := hidI hlk2; clear hlk2
        clear cl fl p0 p1 p2 p3
        go_wp2_with fail
        rw [← HLK2.out]
        have hA2 : adr (if 4 * i = 4 * i + 2 then lk2 else V (4 * i)) (if 4 * i + 1 = 4 * i + 2 then lk2 else V (4 * i + 1)) (if 4 * i + 2 = 4 * i + 2 then lk2 else V (4 * i + 2)) (y + 8 - 1 - j) false tb = A := by
          rw [if_neg (by omega), if_neg (by omega), if_pos rfl, HA.out]
          unfold adr
          rw [HVY.out, row_up y lk1 false j (by omega) (by show _ < (if _ then (16 : Int) else 8); simp; omega) (by omega), (show rowS y lk2 (y + 8 - 1 - j) false = j from row_down y lk2 false j (by omega) (by show _ < (if _ then (16 : Int) else 8); simp; omega) (by omega))]
        refine (adrD hO4 hcap i hi64 (y + 8 - 1 - j) (by omega) (by omega) hV4 false tb A hA2).mono ?_
        clear hA2
        rintro e w4 ⟨rfl, b4⟩
        rw [World.size_setCell] at b4
        have hO5 := hO4.below (w' := w4) (by rw [World.size_setCell]; exact b4)
        have hb4 : Below (w.heap.size + 1) w1 w4 := (hb3.setCell (p := ⟨g, (4 * i + 2) * 2, none⟩) hgl (.int .u8 lk2)).trans (b4.mono (by have := hb3.size; omega))
        clear p0' p1' p2' p3'
        have p0 : w4.cell? ⟨w.heap.size, 0, none⟩ = some (.int .i64 i) := (hb4.cell (by show w.heap.size < _; omega)).trans q0
        have p2 : w4.cell? ⟨w.heap.size, 2, none⟩ = some (.bool false) := (hb4.cell (by show w.heap.size < _; omega)).trans q2
        have p3 : w4.cell? ⟨w.heap.size, 3, none⟩ = some (.bool tb) := (hb4.cell (by show w.heap.size < _; omega)).trans q3
        have e7 := and7 A r0 r1
        have e8 : A % 8 = (j : Int) % 8 := r2
        go_wp2_with fail
        have hmm := @run_makeMap Try.prog
        have e1 := or256 (V (4 * i + 1)) (HVR.out _ (by omega)).1 (HVR.out _ (by omega)).2
        have e9 := r4 (by simp)
        have cti : w4.cell? ⟨g, (4 * i + 1) * 2, none⟩ = some (.int .u8 (V (4 * i + 1))) := (hO5.cell (i := 4 * i + 1) (by omega) (j := 0) (by omega)).trans (by show some (Value.int .u8 (if _ then _ else _)) = _; rw [if_neg (by omega)])
        have hgw : g < w4.heap.size := hO5.lt.2
        have hww : w.heap.size < w4.heap.size := by omega
        have g1 : w4.heap.size ≠ g := by omega
        have g2 : w4.heap.size ≠ w.heap.size := by omega
        clear hb3 hO3 hO4 hO1 b3 b4 hV1 hbl hOr q0 q1 q2 q3
        go_cut [164] (fun p wx => p = .bool false ∧ Below w4.heap.size w4 wx)
        case first =>
          have z1 : IntKind.i64.wrap (4 * (i : Int)) = 4 * i := by unfold IntKind.wrap; simp [IntKind.signed, IntKind.bits]; omega
          have z2 : IntKind.i64.wrap (4 * (i : Int) + 1) = 4 * i + 1 := by unfold IntKind.wrap; simp [IntKind.signed, IntKind.bits]; omega
          have z3 : (0 : Int) ≤ 4 * (i : Int) + 1 := by omega
          have z4 : (4 * (i : Int) + 1) < 256 := by omega
          have z5 : (4 * (i : Int) + 1).toNat = 4 * i + 1 := by omega
          obtain ⟨tv, htv⟩ : ∃ t : Int, t = (if tb = true then 256 else 0) := ⟨_, rfl⟩
          have eor : bits BinOp.or IntKind.u16 (V (4 * i + 1)) tv = A / 16 := by rw [e9, htv]; cases tb <;> simp [e1]
          have HTV := hidI htv
          clear e1 e9 r4 htv
          have z6 : IntKind.u16.wrap (V (4 * i + 1)) = V (4 * i + 1) := by have q := HVR.out (4 * i + 1) (by omega); unfold IntKind.wrap; simp [IntKind.signed, IntKind.bits]; omega
          refine wp_region_noPanic ?_
          refine wp_region_held_drew (S := (fun w' => w'.cell? ⟨w.heap.size, 0, none⟩ = some (.int .i64 i) ∧ w'.cell? ⟨w.heap.size, 2, none⟩ = some (.bool false) ∧ w'.cell? ⟨w.heap.size, 3, none⟩ = some (.bool tb) ∧ w'.cell? ⟨g, (4 * i + 1) * 2, none⟩ = some (.int .u8 (V (4 * i + 1))))) (by kernel_rfl) (by go_keep) (fun hHeld => ?_)
          refine wpAnyH_take (i := 0) (oi := ⟨_, _, _, _, _, _⟩) (v := ?_) rfl (by kernel_rfl) (by kernel_rfl) (by kernel_rfl) (fun _ _ _ h => h) (Or.inl ⟨by rfl, ?_⟩) (by assumption) ?_
          rotate_left
          · (intro w hSw; (try dsimp only at hSw); go_simp); with_reducible rfl
          simp only [Act.put, List.setIfInBounds_toArray, List.set_cons_zero, List.set_cons_succ]
          refine wpAnyH_take (i := 1) (oi := ⟨_, _, _, _, _, _⟩) (v := ?_) rfl (by kernel_rfl) (by kernel_rfl) (by kernel_rfl) (fun _ _ _ h => h) (Or.inl ⟨by rfl, ?_⟩) (by assumption) ?_
          rotate_left
          · (intro w hSw; (try dsimp only at hSw); go_simp); with_reducible rfl
          simp only [Act.put, List.setIfInBounds_toArray, List.set_cons_zero, List.set_cons_succ]
          refine wpAnyH_take (i := 2) (oi := ⟨_, _, _, _, _, _⟩) (v := ?_) rfl (by kernel_rfl) (by kernel_rfl) (by kernel_rfl) (fun _ _ _ h => h) (Or.inl ⟨by rfl, ?_⟩) (by assumption) ?_
          rotate_left
          · (intro w hSw; (try dsimp only at hSw); go_simp); with_reducible rfl
          simp only [Act.put, List.setIfInBounds_toArray, List.set_cons_zero, List.set_cons_succ]
          refine wpAnyH_take (i := 3) (oi := ⟨_, _, _, _, _, _⟩) (v := undef) rfl (by kernel_rfl) (by kernel_rfl) (by kernel_rfl) (fun _ _ _ h => h) (Or.inr ⟨by rfl, rfl⟩) (by assumption) ?_
          simp only [Act.put, List.setIfInBounds_toArray, List.set_cons_zero, List.set_cons_succ]
          refine wpAnyH_take (i := 4) (oi := ⟨_, _, _, _, _, _⟩) (v := undef) rfl (by kernel_rfl) (by kernel_rfl) (by kernel_rfl) (fun _ _ _ h => h) (Or.inr ⟨by rfl, rfl⟩) (by assumption) ?_
          simp only [Act.put, List.setIfInBounds_toArray, List.set_cons_zero, List.set_cons_succ]
          refine wpAnyH_take (i := 5) (oi := ⟨_, _, _, _, _, _⟩) (v := undef) rfl (by kernel_rfl) (by kernel_rfl) (by kernel_rfl) (fun _ _ _ h => h) (Or.inr ⟨by rfl, rfl⟩) (by assumption) ?_
          simp only [Act.put, List.setIfInBounds_toArray, List.set_cons_zero, List.set_cons_succ]
          refine wpAnyH_take (i := 6) (oi := ⟨_, _, _, _, _, _⟩) (v := undef) rfl (by kernel_rfl) (by kernel_rfl) (by kernel_rfl) (fun _ _ _ h => h) (Or.inr ⟨by rfl, rfl⟩) (by assumption) ?_
          simp only [Act.put, List.setIfInBounds_toArray, List.set_cons_zero, List.set_cons_succ]
          refine wpAnyH_take (i := 7) (oi := ⟨_, _, _, _, _, _⟩) (v := undef) rfl (by kernel_rfl) (by kernel_rfl) (by kernel_rfl) (fun _ _ _ h => h) (Or.inr ⟨by rfl, rfl⟩) (by assumption) ?_
          simp only [Act.put, List.setIfInBounds_toArray, List.set_cons_zero, List.set_cons_succ]
          refine wpAnyH_take (i := 8) (oi := ⟨_, _, _, _, _, _⟩) (v := undef) rfl (by kernel_rfl) (by kernel_rfl) (by kernel_rfl) (fun _ _ _ h => h) (Or.inr ⟨by rfl, rfl⟩) (by assumption) ?_
          simp only [Act.put, List.setIfInBounds_toArray, List.set_cons_zero, List.set_cons_succ]
          refine wpAnyH_take (i := 9) (oi := ⟨_, _, _, _, _, _⟩) (v := undef) rfl (by kernel_rfl) (by kernel_rfl) (by kernel_rfl) (fun _ _ _ h => h) (Or.inr ⟨by rfl, rfl⟩) (by assumption) ?_
          simp only [Act.put, List.setIfInBounds_toArray, List.set_cons_zero, List.set_cons_succ]
          refine wpAnyH_take (i := 10) (oi := ⟨_, _, _, _, _, _⟩) (v := ?_) rfl (by kernel_rfl) (by kernel_rfl) (by kernel_rfl) (fun _ _ _ h => h) (Or.inl ⟨by rfl, ?_⟩) (by assumption) ?_
          rotate_left
          · (intro w hSw; (try dsimp only at hSw); go_simp); with_reducible rfl
          simp only [Act.put, List.setIfInBounds_toArray, List.set_cons_zero, List.set_cons_succ]
          refine wpAnyH_take (i := 11) (oi := ⟨_, _, _, _, _, _⟩) (v := ?_) rfl (by kernel_rfl) (by kernel_rfl) (by kernel_rfl) (fun _ _ _ h => h) (Or.inl ⟨by rfl, ?_⟩) (by assumption) ?_
          rotate_left
          · (intro w hSw; (try dsimp only at hSw); go_simp); with_reducible rfl
          simp only [Act.put, List.setIfInBounds_toArray, List.set_cons_zero, List.set_cons_succ]
          refine wpAnyH_take (i := 12) (oi := ⟨_, _, _, _, _, _⟩) (v := ?_) rfl (by kernel_rfl) (by kernel_rfl) (by kernel_rfl) (fun _ _ _ h => h) (Or.inl ⟨by rfl, ?_⟩) (by assumption) ?_
          rotate_left
          · (intro w hSw; (try dsimp only at hSw); go_simp); with_reducible rfl
          simp only [Act.put, List.setIfInBounds_toArray, List.set_cons_zero, List.set_cons_succ]
          refine wpAnyH_take (i := 13) (oi := ⟨_, _, _, _, _, _⟩) (v := ?_) rfl (by kernel_rfl) (by kernel_rfl) (by kernel_rfl) (fun _ _ _ h => h) (Or.inl ⟨by rfl, ?_⟩) (by assumption) ?_
          rotate_left
          · (intro w hSw; (try dsimp only at hSw); go_simp); with_reducible rfl
          simp only [Act.put, List.setIfInBounds_toArray, List.set_cons_zero, List.set_cons_succ]
          refine wpAnyH_take (i := 14) (oi := ⟨_, _, _, _, _, _⟩) (v := ?_) rfl (by kernel_rfl) (by kernel_rfl) (by kernel_rfl) (fun _ _ _ h => h) (Or.inl ⟨by rfl, ?_⟩) (by assumption) ?_
          rotate_left
          · (intro w hSw; (try dsimp only at hSw); go_simp); with_reducible rfl
          simp only [Act.put, List.setIfInBounds_toArray, List.set_cons_zero, List.set_cons_succ]
          refine wpAnyH_take (i := 15) (oi := ⟨_, _, _, _, _, _⟩) (v := ?_) rfl (by kernel_rfl) (by kernel_rfl) (by kernel_rfl) (fun _ _ _ h => h) (Or.inl ⟨by rfl, ?_⟩) (by assumption) ?_
          rotate_left
          · (intro w hSw; (try dsimp only at hSw); go_simp); with_reducible rfl
          simp only [Act.put, List.setIfInBounds_toArray, List.set_cons_zero, List.set_cons_succ]
          refine wpAnyH_take (i := 16) (oi := ⟨_, _, _, _, _, _⟩) (v := ?_) rfl (by kernel_rfl) (by kernel_rfl) (by kernel_rfl) (fun _ _ _ h => h) (Or.inl ⟨by rfl, ?_⟩) (by assumption) ?_
          rotate_left
          · (intro w hSw; (try dsimp only at hSw); go_simp); with_reducible rfl
          simp only [Act.put, List.setIfInBounds_toArray, List.set_cons_zero, List.set_cons_succ]
          refine wpAnyH_take (i := 17) (oi := ⟨_, _, _, _, _, _⟩) (v := ?_) rfl (by kernel_rfl) (by kernel_rfl) (by kernel_rfl) (fun _ _ _ h => h) (Or.inl ⟨by rfl, ?_⟩) (by assumption) ?_
          rotate_left
          · (intro w hSw; (try dsimp only at hSw); go_simp); with_reducible rfl
          simp only [Act.put, List.setIfInBounds_toArray, List.set_cons_zero, List.set_cons_succ]
          refine wpAnyH_take (i := 18) (oi := ⟨_, _, _, _, _, _⟩) (v := ?_) rfl (by kernel_rfl) (by kernel_rfl) (by kernel_rfl) (fun _ _ _ h => h) (Or.inl ⟨by rfl, ?_⟩) (by assumption) ?_
          rotate_left
          · (intro w hSw; (try dsimp only at hSw); go_simp); with_reducible rfl
          simp only [Act.put, List.setIfInBounds_toArray, List.set_cons_zero, List.set_cons_succ]
          refine wpAnyH_take (i := 19) (oi := ⟨_, _, _, _, _, _⟩) (v := ?_) rfl (by kernel_rfl) (by kernel_rfl) (by kernel_rfl) (fun _ _ _ h => h) (Or.inl ⟨by rfl, ?_⟩) (by assumption) ?_
          rotate_left
          · (intro w hSw; (try dsimp only at hSw); go_simp); with_reducible rfl
          simp only [Act.put, List.setIfInBounds_toArray, List.set_cons_zero, List.set_cons_succ]
          refine wpAnyH_take (i := 20) (oi := ⟨_, _, _, _, _, _⟩) (v := ?_) rfl (by kernel_rfl) (by kernel_rfl) (by kernel_rfl) (fun _ _ _ h => h) (Or.inl ⟨by rfl, ?_⟩) (by assumption) ?_
          rotate_left
          · (intro w hSw; (try dsimp only at hSw); go_simp); with_reducible rfl
          simp only [Act.put, List.setIfInBounds_toArray, List.set_cons_zero, List.set_cons_succ]
          refine wpAnyH_take (i := 21) (oi := ⟨_, _, _, _, _, _⟩) (v := ?_) rfl (by kernel_rfl) (by kernel_rfl) (by kernel_rfl) (fun _ _ _ h => h) (Or.inl ⟨by rfl, ?_⟩) (by assumption) ?_
          rotate_left
          · (intro w hSw; (try dsimp only at hSw); go_simp); with_reducible rfl
          simp only [Act.put, List.setIfInBounds_toArray, List.set_cons_zero, List.set_cons_succ]
          refine wpAnyH_take (i := 22) (oi := ⟨_, _, _, _, _, _⟩) (v := ?_) rfl (by kernel_rfl) (by kernel_rfl) (by kernel_rfl) (fun _ _ _ h => h) (Or.inl ⟨by rfl, ?_⟩) (by assumption) ?_
          rotate_left
          · (intro w hSw; (try dsimp only at hSw); go_simp); with_reducible rfl
          simp only [Act.put, List.setIfInBounds_toArray, List.set_cons_zero, List.set_cons_succ]
          refine wpAnyH_take (i := 23) (oi := ⟨_, _, _, _, _, _⟩) (v := ?_) rfl (by kernel_rfl) (by kernel_rfl) (by kernel_rfl) (fun _ _ _ h => h) (Or.inl ⟨by rfl, ?_⟩) (by assumption) ?_
          rotate_left
          · (intro w hSw; (try dsimp only at hSw); go_simp); with_reducible rfl
          simp only [Act.put, List.setIfInBounds_toArray, List.set_cons_zero, List.set_cons_succ]
          refine wpAnyH_take (i := 24) (oi := ⟨_, _, _, _, _, _⟩) (v := ?_) rfl (by kernel_rfl) (by kernel_rfl) (by kernel_rfl) (fun _ _ _ h => h) (Or.inl ⟨by rfl, ?_⟩) (by assumption) ?_
          rotate_left
          · (intro w hSw; (try dsimp only at hSw); go_simp); with_reducible rfl
          simp only [Act.put, List.setIfInBounds_toArray, List.set_cons_zero, List.set_cons_succ]
          refine wpAnyH_take (i := 25) (oi := ⟨_, _, _, _, _, _⟩) (v := ?_) rfl (by kernel_rfl) (by kernel_rfl) (by kernel_rfl) (fun _ _ _ h => h) (Or.inl ⟨by rfl, ?_⟩) (by assumption) ?_
          rotate_left
          · (intro w hSw; (try dsimp only at hSw); go_simp); with_reducible rfl
          simp only [Act.put, List.setIfInBounds_toArray, List.set_cons_zero, List.set_cons_succ]
          refine wpAnyH_take (i := 26) (oi := ⟨_, _, _, _, _, _⟩) (v := ?_) rfl (by kernel_rfl) (by kernel_rfl) (by kernel_rfl) (fun _ _ _ h => h) (Or.inl ⟨by rfl, ?_⟩) (by assumption) ?_
          rotate_left
          · (intro w hSw; (try dsimp only at hSw); go_simp); with_reducible rfl
          simp only [Act.put, List.setIfInBounds_toArray, List.set_cons_zero, List.set_cons_succ]
          refine wpAnyH_take (i := 30) (oi := ⟨_, _, _, _, _, _⟩) (v := ?_) rfl (by kernel_rfl) (by kernel_rfl) (by kernel_rfl) (fun _ _ _ h => h) (Or.inl ⟨by rfl, ?_⟩) (by assumption) ?_
          rotate_left
          · (intro w hSw; (try dsimp only at hSw); go_simp); with_reducible rfl
          simp only [Act.put, List.setIfInBounds_toArray, List.set_cons_zero, List.set_cons_succ]
          refine wpAnyH_take (i := 31) (oi := ⟨_, _, _, _, _, _⟩) (v := ?_) rfl (by kernel_rfl) (by kernel_rfl) (by kernel_rfl) (fun _ _ _ h => h) (Or.inl ⟨by rfl, ?_⟩) (by assumption) ?_
          rotate_left
          · (intro w hSw; (try dsimp only at hSw); go_simp); with_reducible rfl
          simp only [Act.put, List.setIfInBounds_toArray, List.set_cons_zero, List.set_cons_succ]
          refine wpAnyH_ready (rs := [27]) (by kernel_rfl) (by simp) ?_
          refine AllReadyH.cons (o := ⟨_, _, _, _, _, _⟩) rfl (fun K hK => ?_) AllReadyH.nil
          go_simp
          refine hK.out _ _ (by go_keep) (fun hHeld => ?_)
          clear hK K
          refine wpAnyH_ready (rs := [28]) (by kernel_rfl) (by simp) ?_
          refine AllReadyH.cons (o := ⟨_, _, _, _, _, _⟩) rfl (fun K hK => ?_) AllReadyH.nil
          have hins := ins_b (w4.alloc (.map #[] 0)).drew w4.heap.size (.int .u16 256) (by show (w4.heap.push _)[w4.heap.size]? = _; simp)
          go_simp
          refine hK.out _ _ ⟨(cell_insW _ _ _ _ g2).trans hHeld.1, (cell_insW _ _ _ _ g2).trans hHeld.2.1, (cell_insW _ _ _ _ g2).trans hHeld.2.2.1, (cell_insW _ _ _ _ g1).trans hHeld.2.2.2⟩ (fun hHeld => ?_)
          clear hins
          clear hK K
          refine wpAnyH_take (i := 29) (oi := ⟨_, _, _, _, _, _⟩) (v := ?_) rfl (by kernel_rfl) (by kernel_rfl) (by kernel_rfl) (fun _ _ _ h => h) (Or.inl ⟨by rfl, ?_⟩) (by assumption) ?_
          rotate_left
          · (intro w hSw; (try dsimp only at hSw); go_simp); with_reducible rfl
          simp only [Act.put, List.setIfInBounds_toArray, List.set_cons_zero, List.set_cons_succ]
          refine wpAnyH_ready (rs := [32]) (by kernel_rfl) (by simp) ?_
          refine AllReadyH.cons (o := ⟨_, _, _, _, _, _⟩) rfl (fun K hK => ?_) AllReadyH.nil
          have hlk := look_b (insW (w4.alloc (.map #[] 0)).drew w4.heap.size (.int .u16 256)) w4.heap.size 1 256 tb (heap_insW _ _ _ (by show _ < (w4.heap.push _).size; simp))
          rw [← HTV.out] at hlk
          go_simp
          refine hK.out _ _ hHeld (fun hHeld => ?_)
          clear hlk
          clear hK K
          refine wpAnyH_take (i := 33) (oi := ⟨_, _, _, _, _, _⟩) (v := ?_) rfl (by kernel_rfl) (by kernel_rfl) (by kernel_rfl) (fun _ _ _ h => h) (Or.inl ⟨by rfl, ?_⟩) (by assumption) ?_
          rotate_left
          · (intro w hSw; (try dsimp only at hSw); go_simp); with_reducible rfl
          simp only [Act.put, List.setIfInBounds_toArray, List.set_cons_zero, List.set_cons_succ]
          refine wpAnyH_take (i := 34) (oi := ⟨_, _, _, _, _, _⟩) (v := ?_) rfl (by kernel_rfl) (by kernel_rfl) (by kernel_rfl) (fun _ _ _ h => h) (Or.inl ⟨by rfl, ?_⟩) (by assumption) ?_
          rotate_left
          · (intro w hSw; (try dsimp only at hSw); go_simp); with_reducible rfl
          simp only [Act.put, List.setIfInBounds_toArray, List.set_cons_zero, List.set_cons_succ]
          refine wpAnyH_take (i := 35) (oi := ⟨_, _, _, _, _, _⟩) (v := ?_) rfl (by kernel_rfl) (by kernel_rfl) (by kernel_rfl) (fun _ _ _ h => h) (Or.inl ⟨by rfl, ?_⟩) (by assumption) ?_
          rotate_left
          · (intro w hSw; (try dsimp only at hSw); go_simp); with_reducible rfl
          simp only [Act.put, List.setIfInBounds_toArray, List.set_cons_zero, List.set_cons_succ]
          refine wpAnyH_take (i := 36) (oi := ⟨_, _, _, _, _, _⟩) (v := ?_) rfl (by kernel_rfl) (by kernel_rfl) (by kernel_rfl) (fun _ _ _ h => h) (Or.inl ⟨by rfl, ?_⟩) (by assumption) ?_
          rotate_left
          · (intro w hSw; (try dsimp only at hSw); go_simp); with_reducible rfl
          simp only [Act.put, List.setIfInBounds_toArray, List.set_cons_zero, List.set_cons_succ]
          refine wpAnyH_done (by kernel_rfl) (NoPanic.normal ?_) _
          go_wp2_with fail
          go_meet
          exact ⟨by first | rfl | simp, below_insW' _⟩
        case rest =>
          obtain ⟨rfl, hbx⟩ := hcut
          go_wp2_with fail
          have hO6 := hO5.below hbx
          have hb6 := hb4.trans (hbx.mono (by omega))
          exact rnd_endN hlt hO6 hV4 HVE.out hb6
      · obtain rfl : j = 8 := by omega
        go_wp2_with fail
        refine (awake_any _).mono ?_
        rintro e w3 ⟨rfl, b3⟩
        go_wp2
        go_ret
        have bx := bw.trans (hbl.mono (by omega))
        exact ⟨rfl, bx.trans (b3.mono bx.size)⟩
  · go_wp2_with fail
    refine (awake_any _).mono ?_
    rintro e w3 ⟨rfl, b3⟩
    go_wp2
    go_ret
    exact ⟨rfl, bw.trans (b3.mono bw.size)⟩
theorem takeN (m : Nat) {w : World} {ao : Option Addr} {L : BL} (h : RowL w ao L) : RowL w ao (L.take m) := by
  intro i hi
  have hi' : i < m ∧ i < L.length := by rw [List.length_take] at hi; omega
  obtain ⟨b, off, e, hlt, hc⟩ := h i hi'.2
  refine ⟨b, off, e, hlt, fun j hj => (hc j hj).trans ?_⟩
  simp [ByC, vL, sL, List.getD_eq_getElem?_getD, hi'.1]
theorem rows_core (ao : Option Addr) (n cap : Nat) (L : BL) (I line lv hv x : Int) (t tb ls hs : Bool) (w : World) (hc : n ≤ cap) (hn : min n 257 = L.length) (hnil : ao = none → L.length = 0 ∧ cap = 0) (hL : RowL w ao L)
    (hV : ∀ k, k < L.length → 0 ≤ vL L k ∧ vL L k ≤ 255) :
    Calls Try.prog 4 #[.slice ao n cap, .agg #[.int .i64 I, .int .i64 line, .bool t, .bool tb, .int .u8 lv, .bool ls, .int .u8 hv, .bool hs, .int .i64 x]] w fun e w' => e = .returned (.bool true) ∧ Below w.heap.size w w' := by
  cases hm : mayB L.length I line with
  | false => exact rows_no ao n cap L I line lv hv x t tb ls hs w hc hn hnil hL hm
  | true =>
    unfold mayB at hm
    rw [decide_eq_true_iff] at hm
    obtain ⟨i, rfl⟩ : ∃ i : Nat, I = (i : Int) := ⟨I.toNat, by omega⟩
    cases t with
    | true => exact rows_true ao n cap L i line lv hv x tb ls hs w hc hn hnil hL (by omega) (by omega) (by omega) (by omega) (fun k hk => hV k (by omega))
    | false => exact rows_false ao n cap L i line lv hv x tb ls hs w hc hn hnil hL (by omega) (by omega) (by omega) (by omega) (fun k hk => hV k (by omega))
end Go.Proofs.Ytdmcmlajpajaaaa
