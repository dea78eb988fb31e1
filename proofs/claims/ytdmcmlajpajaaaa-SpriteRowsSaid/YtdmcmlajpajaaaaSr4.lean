import Derived.Test.YtdmcmlajpajaaaaSr2
namespace Go.Proofs.Ytdmcmlajpajaaaa
open Go.RowKit Go.Sx
theorem few2 (ao : Option Addr) (cap n : Nat) (L : BL) (w : World) (hc : n ≤ cap) (hn : min n 257 = L.length) : Calls Try.prog 9 #[.slice ao n cap] w fun e w' => e = .returned (.slice ao L.length cap) ∧ w = w' := by
  rw [← hn]
  clear hn
  go_enter Try.func9, Try.ntmps9
  go_wp2
  · go_ret
    have h : (257 : Int) < n := by assumption
    exact ⟨by rw [Nat.min_eq_right (by omega)]; rfl, rfl⟩
  · go_ret
    have h : (n : Int) ≤ 257 := by assumption
    exact ⟨by rw [Nat.min_eq_left (by omega)]; rfl, rfl⟩
abbrev askV (I line lv hv x : Int) (t tb ls hs : Bool) : Value := .agg #[.int .i64 I, .int .i64 line, .bool t, .bool tb, .int .u8 lv, .bool ls, .int .u8 hv, .bool hs, .int .i64 x]
theorem ask_cells {w w1 : World} {I line lv hv x : Int} {t tb ls hs : Bool} (h : Below (w.heap.size + 1) ((w.alloc (.cells #[.int .i64 I, .int .i64 line, .bool t, .bool tb, .int .u8 lv, .bool ls, .int .u8 hv, .bool hs, .int .i64 x] 26)).alloc (.cells #[] 24)) w1) :
    w1.cell? ⟨w.heap.size, 0, none⟩ = some (.int .i64 I) ∧ w1.cell? ⟨w.heap.size, 1, none⟩ = some (.int .i64 line) ∧ w1.cell? ⟨w.heap.size, 2, none⟩ = some (.bool t) ∧ w1.cell? ⟨w.heap.size, 3, none⟩ = some (.bool tb) ∧
      w1.cell? ⟨w.heap.size, 4, none⟩ = some (.int .u8 lv) ∧ w1.cell? ⟨w.heap.size, 5, none⟩ = some (.bool ls) ∧ w1.cell? ⟨w.heap.size, 6, none⟩ = some (.int .u8 hv) ∧ w1.cell? ⟨w.heap.size, 7, none⟩ = some (.bool hs) ∧ w.heap.size < w1.heap.size := by
  have c : ∀ o, w1.cell? ⟨w.heap.size, o, none⟩ = ((w.alloc (.cells #[.int .i64 I, .int .i64 line, .bool t, .bool tb, .int .u8 lv, .bool ls, .int .u8 hv, .bool hs, .int .i64 x] 26)).alloc (.cells #[] 24)).cell? ⟨w.heap.size, o, none⟩ := fun o => h.cell (by show w.heap.size < _; omega)
  have := h.size
  simp at this
  refine ⟨(c 0).trans (by simp [go_sem]), (c 1).trans (by simp [go_sem]), (c 2).trans (by simp [go_sem]), (c 3).trans (by simp [go_sem]), (c 4).trans (by simp [go_sem]), (c 5).trans (by simp [go_sem]), (c 6).trans (by simp [go_sem]), (c 7).trans (by simp [go_sem]), by omega⟩
set_option maxRecDepth 100000 in
set_option maxHeartbeats 3200000 in
theorem rows_no (ao : Option Addr) (n cap : Nat) (L : BL) (I line lv hv x : Int) (t tb ls hs : Bool) (w : World) (hc : n ≤ cap) (hn : min n 257 = L.length) (hnil : ao = none → L.length = 0 ∧ cap = 0) (hL : RowL w ao L) (hm : mayB L.length I line = false) :
    Calls Try.prog 4 #[.slice ao n cap, .agg #[.int .i64 I, .int .i64 line, .bool t, .bool tb, .int .u8 lv, .bool ls, .int .u8 hv, .bool hs, .int .i64 x]] w fun e w' => e = .returned (.bool true) ∧ Below w.heap.size w w' := by
  have HN := hidI hn; clear hn
  have HM := hidI hm; clear hm
  go_enter Try.func4, Try.ntmps4
  go_wp2_with fail
  refine (few2 ao cap n L _ hc HN.out).mono ?_
  rintro e w1 ⟨rfl, rfl⟩
  have b0 : Below w.heap.size w ((w.alloc (.cells #[.int .i64 I, .int .i64 line, .bool t, .bool tb, .int .u8 lv, .bool ls, .int .u8 hv, .bool hs, .int .i64 x] 26)).alloc (.cells #[] 24)) := ((Below.refl _ _).alloc (Nat.le_refl _) _).alloc (by simp) _
  have on := own_new (w.alloc (.cells #[.int .i64 I, .int .i64 line, .bool t, .bool tb, .int .u8 lv, .bool ls, .int .u8 hv, .bool hs, .int .i64 x] 26)) (w.heap.size + 1) (by simp)
  have hl : L.length ≤ 257 := by rw [← HN.out]; omega
  go_wp2_with (first
    | (at_builtin; refine app_law rfl (.tmp 14) (.tmp 16) rfl (L := []) (M := L) (by simp; rfl) on ao cap rfl rfl rfl hnil (RowAt.below hL b0) (by simp; omega) (by simp) ?_; intro g c1 w1 h1 _ hg1 _; rw [List.nil_append] at h1; have b1 : Below (w.heap.size + 1) ((w.alloc (.cells #[.int .i64 I, .int .i64 line, .bool t, .bool tb, .int .u8 lv, .bool ls, .int .u8 hv, .bool hs, .int .i64 x] 26)).alloc (.cells #[] 24)) w1 := (Below.refl _ _).grown hg1 (by simp) (fun k hk => by cases hk; simp); obtain ⟨q0, q1, q2, q3, _, _, _, _, qs⟩ := ask_cells b1)
    | fail)
  refine (May_any _ _ _ _ _ _).mono ?_
  rw [HM.out]
  rintro e w2 ⟨rfl, rfl⟩
  go_wp2_with fail
  refine (awake_any _).mono ?_
  rintro e w3 ⟨rfl, b3⟩
  go_wp2
  go_ret
  have bw := b0.trans (b1.mono (by omega))
  exact ⟨rfl, bw.trans (b3.mono bw.size)⟩
theorem adrC {w : World} {base g cap : Nat} {V : Nat → Int} {S : Nat → Bool} (h : OwnC w base g cap V S) (hcap : 256 ≤ cap) (i : Nat) (hi64 : i < 64) (line : Int) (hl0 : 0 ≤ line) (hl1 : line ≤ 255) (hV : ∀ k, k < 256 → 0 ≤ V k ∧ V k ≤ 255) (tall table : Bool) :
    Calls Try.prog 13 #[.slice (some ⟨g, 0, none⟩) 256 cap, .int .i64 i, .int .i64 line, .bool tall, .bool table] w fun e w' => e = .returned (.tuple #[.int .u16 (adr (V (4 * i)) (V (4 * i + 1)) (V (4 * i + 2)) line tall table), .bool (S (4 * i) || (S (4 * i + 1) || S (4 * i + 2))), .int .i64 0]) ∧ Below w.heap.size w w' := by
  have c : ∀ k j o, k < 256 → j < 2 → o = k * 2 + j → w.cell? ⟨g, o, none⟩ = some (ByC V S k j) := fun k j o hk hj ho => by rw [ho]; exact h.cell hk hj
  exact adr_walk g 0 cap i _ _ _ line _ _ _ tall table w h.lt.2 hi64 hcap hl0 hl1 (hV _ (by omega)).1 (hV _ (by omega)).2 (hV _ (by omega)).1 (hV _ (by omega)).2 (hV _ (by omega)).1 (hV _ (by omega)).2
    (c (4 * i) 0 _ (by omega) (by omega) (by omega)) (c (4 * i) 1 _ (by omega) (by omega) (by omega)) (c (4 * i + 1) 0 _ (by omega) (by omega) (by omega)) (c (4 * i + 1) 1 _ (by omega) (by omega) (by omega)) (c (4 * i + 2) 0 _ (by omega) (by omega) (by omega)) (c (4 * i + 2) 1 _ (by omega) (by omega) (by omega))
theorem row_up (y lk : Int) (t : Bool) (j : Int) (h0 : 0 ≤ j) (h1 : j < hi t) (hl : lk < 128) : rowS y lk (y + j) t = j := by
  unfold rowS hi at *
  rw [if_neg (by omega)]
  cases t <;> simp only [Bool.false_eq_true, if_false, if_true] at * <;> omega
theorem row_down (y lk : Int) (t : Bool) (j : Int) (h0 : 0 ≤ j) (h1 : j < hi t) (hl : 128 ≤ lk) : rowS y lk (y + hi t - 1 - j) t = j := by
  unfold rowS hi at *
  rw [if_pos hl]
  cases t <;> simp only [Bool.false_eq_true, if_false, if_true] at * <;> omega
theorem and127 (lk : Int) (h0 : 0 ≤ lk) (h1 : lk ≤ 255) : 0 ≤ bits BinOp.and IntKind.u8 lk 127 ∧ bits BinOp.and IntKind.u8 lk 127 ≤ 127 := by
  have key : ∀ a : Fin 256, 0 ≤ bits BinOp.and IntKind.u8 ((a.val : Nat) : Int) 127 ∧ bits BinOp.and IntKind.u8 ((a.val : Nat) : Int) 127 ≤ 127 := by decide +kernel
  have := key ⟨lk.toNat, by omega⟩
  simpa only [Int.toNat_of_nonneg h0] using this
theorem or128 (lk : Int) (h0 : 0 ≤ lk) (h1 : lk ≤ 255) : 128 ≤ bits BinOp.or IntKind.u8 lk 128 ∧ bits BinOp.or IntKind.u8 lk 128 ≤ 255 := by
  have key : ∀ a : Fin 256, 128 ≤ bits BinOp.or IntKind.u8 ((a.val : Nat) : Int) 128 ∧ bits BinOp.or IntKind.u8 ((a.val : Nat) : Int) 128 ≤ 255 := by decide +kernel
  have := key ⟨lk.toNat, by omega⟩
  simpa only [Int.toNat_of_nonneg h0] using this
/-- The address of a row that is told. -/
theorem adr_row (y ti lk line : Int) (t tb : Bool) (j : Int) (h : rowS y lk line t = j) (h0 : 0 ≤ j) (h1 : j < hi t) (t0 : 0 ≤ ti) (t1 : ti ≤ 255) :
    0 ≤ adr y ti lk line t tb ∧ adr y ti lk line t tb ≤ 8191 ∧ adr y ti lk line t tb % 8 = j % 8 ∧ (t = true → adr y ti lk line t tb / 16 % 2 = if 8 ≤ j then 1 else 0) ∧ (t = false → adr y ti lk line t tb / 16 = (if tb then 256 else 0) + ti) := by
  unfold adr
  rw [h]
  unfold hi at h1
  cases t <;> cases tb <;> simp only [Bool.false_eq_true, if_false, if_true] at * <;> (try split) <;> refine ⟨by omega, by omega, by omega, fun h => ?_, fun h => ?_⟩ <;> first | omega | cases h
theorem and7 (a : Int) (h0 : 0 ≤ a) (h1 : a ≤ 8191) : bits BinOp.and IntKind.u16 a 7 = a % 8 := by
  have key : ∀ (h : Fin 64) (l : Fin 128), bits BinOp.and IntKind.u16 (128 * ((h.val : Nat) : Int) + ((l.val : Nat) : Int)) 7 = (128 * ((h.val : Nat) : Int) + ((l.val : Nat) : Int)) % 8 := by decide +kernel
  have := key ⟨(a / 128).toNat, by omega⟩ ⟨(a % 128).toNat, by omega⟩
  simp only [Int.toNat_of_nonneg (show 0 ≤ a / 128 by omega), Int.toNat_of_nonneg (show 0 ≤ a % 128 by omega)] at this
  rwa [show 128 * (a / 128) + a % 128 = a by omega] at this
theorem and1w (a : Int) (h0 : 0 ≤ a) (h1 : a ≤ 8191) : bits BinOp.and IntKind.u16 a 1 = a % 2 := by
  have key : ∀ (h : Fin 64) (l : Fin 128), bits BinOp.and IntKind.u16 (128 * ((h.val : Nat) : Int) + ((l.val : Nat) : Int)) 1 = (128 * ((h.val : Nat) : Int) + ((l.val : Nat) : Int)) % 2 := by decide +kernel
  have := key ⟨(a / 128).toNat, by omega⟩ ⟨(a % 128).toNat, by omega⟩
  simp only [Int.toNat_of_nonneg (show 0 ≤ a / 128 by omega), Int.toNat_of_nonneg (show 0 ≤ a % 128 by omega)] at this
  rwa [show 128 * (a / 128) + a % 128 = a by omega] at this
theorem or256 (a : Int) (h0 : 0 ≤ a) (h1 : a ≤ 255) : bits BinOp.or IntKind.u16 a 256 = 256 + a ∧ bits BinOp.or IntKind.u16 a 0 = 0 + a := by
  have key : ∀ a : Fin 256, bits BinOp.or IntKind.u16 ((a.val : Nat) : Int) 256 = 256 + ((a.val : Nat) : Int) ∧ bits BinOp.or IntKind.u16 ((a.val : Nat) : Int) 0 = 0 + ((a.val : Nat) : Int) := by decide +kernel
  have := key ⟨a.toNat, by omega⟩
  simpa only [Int.toNat_of_nonneg h0] using this
end Go.Proofs.Ytdmcmlajpajaaaa
