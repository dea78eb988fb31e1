import Derived.Test.YtolennlpkpkhhaaHa2
namespace Go.Proofs.Ytolennlpkpkhhaa
open Go.RowKit Go.Sx
abbrev cartV (m s p c : Int) (ba fo ve tw ow : Bool) : Value := .agg #[.int .i64 m, .int .i64 s, .int .i64 p, .int .i64 c, .bool ba, .bool fo, .bool ve, .bool tw, .bool ow]
def chk (m s p c : Int) (tw ow : Bool) : Int :=
  if ¬ (0 ≤ m ∧ m ≤ 4 ∨ m = 7) then 6 else if powB p 16384 = false ∨ powB c 8192 = false ∨ (ow = true ∧ c ≠ 8192) then 5 else if s < 0 ∨ 15 < s ∨ (tw = false ∧ s ≠ 0) then 1 else 0
set_option maxHeartbeats 1600000 in
theorem check_any (m s p c : Int) (ba fo ve tw ow : Bool) (hp0 : -1 ≤ p) (hp1 : p ≤ 1000000000) (hc0 : -1 ≤ c) (hc1 : c ≤ 1000000000) (w : World) :
    Calls Try.prog 11 #[cartV m s p c ba fo ve tw ow] w fun e w' => e = .returned (.int .i64 (chk m s p c tw ow)) ∧ Below w.heap.size w w' := by
  obtain ⟨z, hz⟩ : ∃ z, z = chk m s p c tw ow := ⟨_, rfl⟩
  rw [← hz]
  have HZ := hidI hz; clear hz
  have k0 := blk_new w (.cells #[.int .i64 m, .int .i64 s, .int .i64 p, .int .i64 c, .bool ba, .bool fo, .bool ve, .bool tw, .bool ow] 23)
  have b0 : Below w.heap.size w (w.alloc (.cells #[.int .i64 m, .int .i64 s, .int .i64 p, .int .i64 c, .bool ba, .bool fo, .bool ve, .bool tw, .bool ow] 23)) := (Below.refl _ _).alloc (Nat.le_refl _) _
  cases hk : decide (0 ≤ m ∧ m ≤ 4 ∨ m = 7)
  · have HK := hidI hk; clear hk
    have HF : Hid (z = 6) := by
      have := HK.out; rw [decide_eq_false_iff_not] at this
      show _ = _; rw [HZ.out]; unfold chk; rw [if_pos this]
    go_enter Try.func11, Try.ntmps11
    go_wp2_with fail
    refine (known_any m _).mono ?_
    rw [HK.out]
    rintro e w1 ⟨rfl, rfl⟩
    go_wp2
    go_ret
    exact ⟨ret_int HF.out.symm, b0⟩
  · have HK := hidI hk; clear hk
    cases hp : powB p 16384
    · have HP := hidI hp; clear hp
      have HF : Hid (z = 5) := by
        have := HK.out; rw [decide_eq_true_eq] at this
        show _ = _; rw [HZ.out]; unfold chk; rw [if_neg (fun h => h this), if_pos (.inl HP.out)]
      go_enter Try.func11, Try.ntmps11
      go_wp2_with fail
      refine (known_any m _).mono ?_
      rw [HK.out]
      rintro e w1 ⟨rfl, rfl⟩
      go_wp2_with fail
      refine (powers_any p 16384 (.inl rfl) hp0 hp1 _).mono ?_
      rw [HP.out]
      rintro e w2 ⟨rfl, b2⟩
      have bb := b0.trans (b2.mono b0.size)
      have k2 := (b2.block _ (blk_lt k0)).trans k0
      clear k0 b0
      have c8 : w2.cell? ⟨w.heap.size, 8, none⟩ = some (.bool ow) := blk_cell k2 8
      have c3 : w2.cell? ⟨w.heap.size, 3, none⟩ = some (.int .i64 c) := blk_cell k2 3
      go_wp2
      go_ret
      exact ⟨ret_int HF.out.symm, bb⟩
    · have HP := hidI hp; clear hp
      cases hc : powB c 8192
      · have HC := hidI hc; clear hc
        have HF : Hid (z = 5) := by
          have := HK.out; rw [decide_eq_true_eq] at this
          show _ = _; rw [HZ.out]; unfold chk; rw [if_neg (fun h => h this), if_pos (.inr (.inl HC.out))]
        go_enter Try.func11, Try.ntmps11
        go_wp2_with fail
        refine (known_any m _).mono ?_
        rw [HK.out]
        rintro e w1 ⟨rfl, rfl⟩
        go_wp2_with fail
        refine (powers_any p 16384 (.inl rfl) hp0 hp1 _).mono ?_
        rw [HP.out]
        rintro e w2 ⟨rfl, b2⟩
        have bb := b0.trans (b2.mono b0.size)
        have k2 := (b2.block _ (blk_lt k0)).trans k0
        clear k0 b0
        have c8 : w2.cell? ⟨w.heap.size, 8, none⟩ = some (.bool ow) := blk_cell k2 8
        have c3 : w2.cell? ⟨w.heap.size, 3, none⟩ = some (.int .i64 c) := blk_cell k2 3
        go_wp2_with fail
        refine (powers_any c 8192 (.inr rfl) hc0 hc1 _).mono ?_
        rw [HC.out]
        rintro e w3 ⟨rfl, b3⟩
        go_wp2
        go_ret
        exact ⟨ret_int HF.out.symm, bb.trans (b3.mono bb.size)⟩
      · have HC := hidI hc; clear hc
        have HF : Hid (z = if (ow = true ∧ c ≠ 8192) then 5 else if s < 0 ∨ 15 < s ∨ (tw = false ∧ s ≠ 0) then 1 else 0) := by
          have := HK.out; rw [decide_eq_true_eq] at this
          show _ = _; rw [HZ.out]; unfold chk; rw [if_neg (fun h => h this), HP.out, HC.out]; simp
        go_enter Try.func11, Try.ntmps11
        go_wp2_with fail
        refine (known_any m _).mono ?_
        rw [HK.out]
        rintro e w1 ⟨rfl, rfl⟩
        go_wp2_with fail
        refine (powers_any p 16384 (.inl rfl) hp0 hp1 _).mono ?_
        rw [HP.out]
        rintro e w2 ⟨rfl, b2⟩
        have bb := b0.trans (b2.mono b0.size)
        have k2 := (b2.block _ (blk_lt k0)).trans k0
        clear k0 b0
        have c3 : w2.cell? ⟨w.heap.size, 3, none⟩ = some (.int .i64 c) := blk_cell k2 3
        go_wp2_with fail
        refine (powers_any c 8192 (.inr rfl) hc0 hc1 _).mono ?_
        rw [HC.out]
        rintro e w3 ⟨rfl, b3⟩
        have b03 := bb.trans (b3.mono bb.size)
        have k3 := (b3.block _ (blk_lt k2)).trans k2
        clear k2 c3 bb b2 b3
        have c8 : w3.cell? ⟨w.heap.size, 8, none⟩ = some (.bool ow) := blk_cell k3 8
        have c3 : w3.cell? ⟨w.heap.size, 3, none⟩ = some (.int .i64 c) := blk_cell k3 3
        have c1 : w3.cell? ⟨w.heap.size, 1, none⟩ = some (.int .i64 s) := blk_cell k3 1
        have c7 : w3.cell? ⟨w.heap.size, 7, none⟩ = some (.bool tw) := blk_cell k3 7
        have B03 := hidI b03; clear b03 k3
        cases ow <;> cases tw
        all_goals
          go_wp2
        all_goals
          go_ret
          refine ⟨ret_int ?_, B03.out⟩
          rw [HF.out]
          simp only [beq_iff_eq, beq_eq_false_iff_ne, bne_iff_ne, bne_eq_false_iff_eq, ne_eq] at *
          clear HF HK HP HC HZ
          simp
          try omega
end Go.Proofs.Ytolennlpkpkhhaa
