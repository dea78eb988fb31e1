import Derived.Test.YtdmcmlajpajaaaaSg2
namespace Go.Proofs.Ytdmcmlajpajaaaa
open Go.RowKit Go.Sx
/-- A row of bytes that the call has made, as functions read it. -/
theorem OwnB.rows {w : World} {base g : Nat} {V : Nat → Int} {S : Nat → Bool} (h : OwnB w base g V S) : ∀ i, i < 256 → ∀ j, j < 2 → w.cell? ⟨g, 0 + i * 2 + j, none⟩ = some (ByC V S i j) := fun i hi j hj => by rw [Nat.zero_add]; exact h.cell hi hj
theorem OwnB.below {w w' : World} {base g : Nat} {V : Nat → Int} {S : Nat → Bool} (h : OwnB w base g V S) (hb : Below w.heap.size w w') : OwnB w' base g V S := h.same (hb.block g h.lt.2)
def vA (i : Nat) : Int := if i = 2 then 0 else if i = 1 then 3 else if i = 0 then 10 else 239
def sA (_ : Nat) : Bool := false
theorem vA_in (i : Nat) (_ : i < 256) : 0 ≤ vA i ∧ vA i ≤ 255 := by
  unfold vA
  split
  · decide
  · split
    · decide
    · split <;> decide
theorem ownA {w : World} {base g : Nat} (h : OwnB w base g (fun _ => 239) (fun _ => false)) : OwnB (((w.setCell ⟨g, 0, none⟩ (.int .u8 10)).setCell ⟨g, 2, none⟩ (.int .u8 3)).setCell ⟨g, 4, none⟩ (.int .u8 0)) base g vA sA := by
  have := ((h.store (k := 0) 10 (by omega)).store (k := 1) 3 (by omega)).store (k := 2) 0 (by omega)
  exact this.vals fun i _ => ⟨rfl, rfl⟩
theorem Find_A (g base : Nat) (line : Int) (k : Nat) (w : World) (h : OwnB w base g vA sA) (hl0 : 0 ≤ line) (hl1 : line ≤ 255) (hk : (fnd vA line false 64).length = k) (hk8 : k ≤ 8) :
    Calls Try.prog 10 #[.slice (some ⟨g, 0, none⟩) 256 256, .int .i64 line, .bool false] w fun e w' => (∃ ao cap', e = .returned (.tuple #[.slice ao k cap', .bool false, .bool false, .int .i64 0])) ∧ OwnB w' base g vA sA ∧ Below w.heap.size w w' := by
  refine (Find_yes g 0 256 vA sA line false w h.lt.2 (Nat.le_refl _) hl0 hl1 vA_in h.rows).mono ?_
  rintro e w' ⟨ao, n, cap', rfl, hn, _, _, hb⟩
  refine ⟨⟨ao, cap', ?_⟩, h.below hb, hb⟩
  rw [hn, hk, Nat.min_eq_left hk8, show secs sA 64 = false by decide +kernel, decide_eq_false (by omega)]
theorem Adr_A (g base : Nat) (w : World) (h : OwnB w base g vA sA) :
    Calls Try.prog 13 #[.slice (some ⟨g, 0, none⟩) 256 256, .int .i64 0, .int .i64 12, .bool true, .bool false] w fun e w' => e = .returned (.tuple #[.int .u16 4130, .bool false, .int .i64 0]) ∧ Below w.heap.size w w' := by
  have c := h.rows
  exact adr_walk g 0 256 0 10 3 0 12 false false false true false w h.lt.2 (by decide) (Nat.le_refl _) (by decide) (by decide) (by decide) (by decide) (by decide) (by decide) (by decide) (by decide)
    (c 0 (by decide) 0 (by decide)) (c 0 (by decide) 1 (by decide)) (c 1 (by decide) 0 (by decide)) (c 1 (by decide) 1 (by decide)) (c 2 (by decide) 0 (by decide)) (c 2 (by decide) 1 (by decide))
set_option maxRecDepth 100000 in
set_option maxHeartbeats 1600000 in
theorem awake_any (w : World) : Calls Try.prog 11 #[] w fun e w' => e = .returned (.bool true) ∧ Below w.heap.size w w' := by
  go_enter Try.func11, Try.ntmps11
  go_wp2_with fail
  refine (none_any _).mono ?_
  rintro e w1 ⟨g, rfl, hO, hb1⟩
  have c0 : w1.cell? ⟨g, 0, none⟩ = some (.int .u8 239) := hO.cell (i := 0) (j := 0) (by omega) (by omega)
  have c1 : w1.cell? ⟨g, 2, none⟩ = some (.int .u8 239) := hO.cell (i := 1) (j := 0) (by omega) (by omega)
  have c2 : w1.cell? ⟨g, 4, none⟩ = some (.int .u8 239) := hO.cell (i := 2) (j := 0) (by omega) (by omega)
  have f0 := hO.frozen 0
  have f1 := hO.frozen 2
  have f2 := hO.frozen 4
  trace "1"
  go_wp2_with fail
  trace "2"
  refine (Find_A _ _ 10 1 _ (ownA hO) (by decide) (by decide) (by decide +kernel) (by decide)).mono ?_
  trace "3"
  rintro e w2 ⟨⟨ao, cp, rfl⟩, hO2, hb2⟩
  go_wp2_with fail
  trace "4"
  refine (Find_A _ _ 17 1 _ hO2 (by decide) (by decide) (by decide +kernel) (by decide)).mono ?_
  rintro e w3 ⟨⟨ao3, cp3, rfl⟩, hO3, hb3⟩
  go_wp2_with fail
  trace "5"
  refine (Find_A _ _ 18 0 _ hO3 (by decide) (by decide) (by decide +kernel) (by decide)).mono ?_
  rintro e w4 ⟨⟨ao4, cp4, rfl⟩, hO4, hb4⟩
  go_wp2_with fail
  trace "6"
  refine (Adr_A _ _ _ hO4).mono ?_
  rintro e w5 ⟨rfl, hb5⟩
  go_wp2_with fail
  trace "7"
  refine (Dot_zero _ _ _ _).mono ?_
  rintro e w6 ⟨rfl, hb6⟩
  go_wp2
  trace "8"
  go_ret
  refine ⟨rfl, ?_⟩
  have hg := hO.lt.1
  have a1 : Below w.heap.size w (((w1.setCell ⟨g, 0, none⟩ (.int .u8 10)).setCell ⟨g, 2, none⟩ (.int .u8 3)).setCell ⟨g, 4, none⟩ (.int .u8 0)) := ((hb1.setCell hg _).setCell hg _).setCell hg _
  have a2 := a1.trans (hb2.mono a1.size)
  have a3 := a2.trans (hb3.mono a2.size)
  have a4 := a3.trans (hb4.mono a3.size)
  have a5 := a4.trans (hb5.mono a4.size)
  exact a5.trans (hb6.mono a5.size)
end Go.Proofs.Ytdmcmlajpajaaaa
