/- For every input ScriptMore answers true. -/
import Derived.Test.YtkhjfcbloahjeaaRows
import Derived.Test.YtkhjfcbloahjeaaQg1
namespace Go.Proofs.Ytkhjfcbloahjeaa
open Go.ChangeShapes Go.WideShapes Go.ChangeAt Go.RowKit Go.Sx

theorem own : ownKnob Try.prog.godebug = none := by kernel_rfl
theorem laid : laidOutB Try.prog = true := by kernel_rfl

def ssL : List SV := [.agg [.cb (.bv 0), .cb (.bv 1), .xs 4352 (.lit 0) (.iv 2) (.iv 3), .xs 4353 (.lit 0) (.iv 4) (.iv 5), .cb (.bv 6), .cb (.bv 7), .xs 4354 (.lit 0) (.iv 8) (.iv 9), .xs 4355 (.lit 0) (.iv 10) (.iv 11), .str [.xt 644 (.lit 0) (.iv 12)], .xs 261 (.lit 0) (.iv 13) (.iv 14), .str [.xt 646 (.lit 0) (.iv 15)], .str [.xt 647 (.lit 0) (.iv 16)], .str [.xt 648 (.lit 0) (.iv 17)], .xs 265 (.lit 0) (.iv 18) (.iv 19), .str [.xt 650 (.lit 0) (.iv 20)], .str [.xt 651 (.lit 0) (.iv 21)], .ci .i64 (.iv 22), .ci .i64 (.iv 23)]]
def ksL : List LK := [.b, .b, .i .i64, .i .i64, .i .i64, .i .i64, .b, .b, .i .i64, .i .i64, .i .i64, .i .i64, .i .i64, .i .i64, .i .i64, .i .i64, .i .i64, .i .i64, .i .i64, .i .i64, .i .i64, .i .i64, .i .i64, .i .i64]
theorem argsL : argRs Try.prog Try.f3.params.toList 0 0 = some (ssL, ksL, [(4352, 2), (4353, 4), (4354, 8), (4355, 10), (644, 12), (261, 13), (646, 15), (647, 16), (648, 17), (265, 18), (650, 20), (651, 21)]) := by kernel_rfl
theorem rg_row (ρ : Env) {w : World} {ao : Option Addr} {e n : Nat} (hk : ksOf e = [.i .i64, .i .i64]) (h : RowAt w ao n (ksOf e).length (rowCV ρ e)) : RgAt w ao n (fun i => ρ.f (rowF e 0) [(i : Int)]) (fun i => ρ.f (rowF e 1) [(i : Int)]) := by
  intro i hi
  obtain ⟨b, off, e', hlt, hc⟩ := h i hi
  refine ⟨b, off, e', hlt, fun j hj => ?_⟩
  have := hc j (by rw [hk]; exact hj)
  simp only [rowCV, hk] at this
  refine this.trans ?_
  match j, hj with
  | 0, _ => rfl
  | 1, _ => rfl
theorem in_row (ρ : Env) {w : World} {ao : Option Addr} {e n : Nat} (hk : ksOf e = [.i .i64]) (h : RowAt w ao n (ksOf e).length (rowCV ρ e)) : IntsAt w ao n (fun i => ρ.f (rowF e 0) [(i : Int)]) := by
  intro i hi
  obtain ⟨b, off, e', hlt, hc⟩ := h i hi
  refine ⟨b, off, e', hlt, fun j hj => ?_⟩
  have := hc j (by rw [hk]; exact hj)
  simp only [rowCV, hk] at this
  obtain rfl : j = 0 := by omega
  exact this
theorem law_env (ρ : Env) (w : World) (hA : (addRows [(4352, 2), (4353, 4), (4354, 8), (4355, 10), (644, 12), (261, 13), (646, 15), (647, 16), (648, 17), (265, 18), (650, 20), (651, 21)] ⟨ksL.map LK.rg, []⟩).ok ρ) (hx : Go.Sx.RowsIn ρ w) :
    Calls Try.prog 3 (ssL.map (SV.den ρ fun _ => 0)).toArray w fun e w' => e = .returned (.bool true) ∧ Below w.heap.size w w' := by
  obtain ⟨ra, e1, e2, e3, e4⟩ := row_arg hx hA (e := 4352) (c := 2) (by decide) (by kernel_rfl) (by kernel_rfl) (by kernel_rfl)
  obtain ⟨sa, f1, f2, f3, f4⟩ := row_arg hx hA (e := 4353) (c := 4) (by decide) (by kernel_rfl) (by kernel_rfl) (by kernel_rfl)
  obtain ⟨ta, g1, g2, g3, g4⟩ := row_arg hx hA (e := 4354) (c := 8) (by decide) (by kernel_rfl) (by kernel_rfl) (by kernel_rfl)
  obtain ⟨va, h1, h2, h3, h4⟩ := row_arg hx hA (e := 4355) (c := 10) (by decide) (by kernel_rfl) (by kernel_rfl) (by kernel_rfl)
  obtain ⟨ao, k1, k2, k3, k4⟩ := row_arg hx hA (e := 261) (c := 13) (by decide) (by kernel_rfl) (by kernel_rfl) (by kernel_rfl)
  obtain ⟨bo, m1, m2, m3, m4⟩ := row_arg hx hA (e := 265) (c := 18) (by decide) (by kernel_rfl) (by kernel_rfl) (by kernel_rfl)
  have e1' : SC.den ρ (fun _ => 0) (.xs 4352 (.lit 0) (.iv 2) (.iv 3)) = .slice ra (ρ.i 2).toNat (ρ.i 3).toNat := e1
  have f1' : SC.den ρ (fun _ => 0) (.xs 4353 (.lit 0) (.iv 4) (.iv 5)) = .slice sa (ρ.i 4).toNat (ρ.i 5).toNat := f1
  have g1' : SC.den ρ (fun _ => 0) (.xs 4354 (.lit 0) (.iv 8) (.iv 9)) = .slice ta (ρ.i 8).toNat (ρ.i 9).toNat := g1
  have h1' : SC.den ρ (fun _ => 0) (.xs 4355 (.lit 0) (.iv 10) (.iv 11)) = .slice va (ρ.i 10).toNat (ρ.i 11).toNat := h1
  have k1' : SC.den ρ (fun _ => 0) (.xs 261 (.lit 0) (.iv 13) (.iv 14)) = .slice ao (ρ.i 13).toNat (ρ.i 14).toNat := k1
  have m1' : SC.den ρ (fun _ => 0) (.xs 265 (.lit 0) (.iv 18) (.iv 19)) = .slice bo (ρ.i 18).toNat (ρ.i 19).toNat := m1
  simp only [ssL, List.map_cons, List.map_nil, SV.den, e1', f1', g1', h1', k1', m1']
  exact more_law _ _ ra _ _ sa _ _ _ _ ta _ _ va _ _ _ ao _ _ _ _ _ bo _ _ _ _ _ _ _ _ _ _ _ _ _ _ _ _ w e3 f3 g3 h3 k3 m3 (rg_row ρ rfl e2) (rg_row ρ rfl f2) (rg_row ρ rfl g2) (rg_row ρ rfl h2) (in_row ρ rfl k2) (in_row ρ rfl m2) ⟨fun i hi => k4 i hi 0 _ rfl⟩ ⟨fun i hi => m4 i hi 0 _ rfl⟩

def zeros : Env := ⟨fun _ => 0, fun _ => false, fun _ _ => 0, fun _ _ => true, fun _ => .bool false, fun _ => ⟨⟨0, 0, none⟩, .cells #[] 0 (0, 0)⟩⟩
set_option maxRecDepth 100000 in
theorem lifted3 (os : Os) (started : os.Started) (H : Type) (enc : TypeId × Value → H) :
    ReturnsInHanded {} Try.checked os 3 .any (Rows.scriptMoreSpec.pre6 enc Try.prog Try.f3 Rows.scriptMoreRow.domain false) (Rows.scriptMoreSpec.post enc Try.prog Try.f3 false true false false) := by
  refine returnsInHanded_of_change (C := Try.checked) own started (by kernel_rfl) Try.func3
    (ChangeSpec.witness6 (enc := enc) (C := Try.checked) false ⟨#[], (ssL.map (SV.den zeros fun _ => 0)).toArray, []⟩ 8 (by kernel_rfl) (by kernel_rfl) (by kernel_rfl) (by kernel_rfl)) ?_
  intro W base args ds gs before hval0 hW _ _
  have hval : ∀ (j : Nat) t v, Try.f3.params[j]? = some t → args[j]? = some v → Value.okWide Try.prog W .any base t v := hval0
  have hW' := hW
  obtain ⟨p, q, hA0, hV, rfl, _, _⟩ := hW
  have hA : DataW.TrodAll enc Try.prog W 0 (fun _ => true) true Try.f3.params.toList args.toList ds p := hA0
  obtain ⟨rfl, rfl⟩ := trodVars_none hV
  have hA1 := hA
  rw [Try.params3] at hA1
  obtain ⟨v0, d0, _, rfl, _⟩ := trodAll_one hA1
  refine (rows_hand (r := .any) (base := base) argsL (fun j t v ht hv => hval j t v (by simpa using ht) hv) hA (fun ρ hk hx => law_env ρ W hk hx)).mono fun e W' ⟨he, hb⟩ => ?_
  subst he
  exact ⟨_, rfl, law_post (tb := 4) laid rfl (by rw [Try.params3]; intro t ht; simp at ht; first | (subst ht; exact ⟨by kernel_rfl, of_decide_eq_true (by kernel_rfl)⟩) | (rcases ht with rfl | rfl <;> exact ⟨by kernel_rfl, of_decide_eq_true (by kernel_rfl)⟩) | (rcases ht with rfl | rfl | rfl <;> exact ⟨by kernel_rfl, of_decide_eq_true (by kernel_rfl)⟩)) rfl Try.underlying4 hW' hA hb ⟨rfl, rfl, rfl⟩⟩

theorem scriptMore_holds : Rows.ScriptMoreSaid :=
  OpenClaim.holds_of_wide 3 Try.f3 rfl rfl rfl rfl rfl rfl rfl ⟨rfl, rfl, rfl, rfl, rfl⟩ rfl rfl rfl rfl rfl (by kernel_rfl) Try.func3 (by kernel_rfl)
    (of_decide_eq_true (by kernel_rfl)) (by unfold Func.isWrapper; first | (rw [if_pos (by decide +kernel)]; kernel_rfl) | (rw [if_neg (by decide +kernel)]; exact ⟨rfl, rfl⟩))
    (fun os started H enc _ => lifted3 os started H enc)
#print axioms scriptMore_holds
end Go.Proofs.Ytkhjfcbloahjeaa
