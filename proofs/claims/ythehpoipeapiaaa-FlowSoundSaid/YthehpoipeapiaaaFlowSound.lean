/- For every input FlowSound answers true. -/
import Derived.Test.YthehpoipeapiaaaRows
import Derived.Test.YthehpoipeapiaaaFa5
namespace Go.Proofs.Ythehpoipeapiaaa
open Go.ChangeShapes Go.WideShapes Go.ChangeAt Go.RowKit Go.Sx

theorem own : ownKnob Try.prog.godebug = none := by kernel_rfl
theorem laid : laidOutB Try.prog = true := by kernel_rfl

def ssL : List SV := [.agg [.cb (.bv 0), .cb (.bv 1), .xs 4352 (.lit 0) (.iv 2) (.iv 3), .xs 4353 (.lit 0) (.iv 4) (.iv 5)], .c (.xs 17895682 (.lit 0) (.iv 6) (.iv 7))]
def ksL : List LK := [.b, .b, .i .i64, .i .i64, .i .i64, .i .i64, .i .i64, .i .i64]
theorem argsL : argRs Try.prog Try.f6.params.toList 0 0 = some (ssL, ksL, [(4352, 2), (4353, 4), (17895682, 6)]) := by kernel_rfl
theorem rg_row (ρ : Env) {w : World} {ao : Option Addr} {e n : Nat} (hk : ksOf e = [.i .i64, .i .i64]) (h : RowAt w ao n (ksOf e).length (rowCV ρ e)) : RgAt w ao n (fun i => ρ.f (rowF e 0) [(i : Int)]) (fun i => ρ.f (rowF e 1) [(i : Int)]) := by
  intro i hi
  obtain ⟨b, off, e', hlt, hc⟩ := h i hi
  refine ⟨b, off, e', hlt, fun j hj => ?_⟩
  have := hc j (by rw [hk]; exact hj)
  simp only [rowCV, hk] at this
  refine this.trans ?_
  match j, hj with
  | 0, _ => rfl
  | 1, _ => rfl
theorem en_row (ρ : Env) {w : World} {ao : Option Addr} {e n : Nat} (hk : ksOf e = [.i .i64, .i .i64, .i .i64, .i .i64, .i .i64]) (h : RowAt w ao n (ksOf e).length (rowCV ρ e)) : EnAt w ao n (fun i => ρ.f (rowF e 0) [(i : Int)]) (fun i => ρ.f (rowF e 1) [(i : Int)]) (fun i => ρ.f (rowF e 2) [(i : Int)]) (fun i => ρ.f (rowF e 3) [(i : Int)]) (fun i => ρ.f (rowF e 4) [(i : Int)]) := by
  intro i hi
  obtain ⟨b, off, e', hlt, hc⟩ := h i hi
  rw [hk] at hc
  refine ⟨b, off, e', hlt, fun j hj => ?_⟩
  have := hc j hj
  simp only [rowCV, hk] at this
  refine this.trans ?_
  match j, hj with
  | 0, _ => rfl
  | 1, _ => rfl
  | 2, _ => rfl
  | 3, _ => rfl
  | 4, _ => rfl
theorem law_env (ρ : Env) (w : World) (hA : (addRows [(4352, 2), (4353, 4), (17895682, 6)] ⟨ksL.map LK.rg, []⟩).ok ρ) (hx : Go.Sx.RowsIn ρ w) :
    Calls Try.prog 6 (ssL.map (SV.den ρ fun _ => 0)).toArray w fun e w' => e = .returned (.bool true) ∧ Below w.heap.size w w' := by
  obtain ⟨ra, e1, e2, e3, e4⟩ := row_arg hx hA (e := 4352) (c := 2) (by decide) (by kernel_rfl) (by kernel_rfl) (by kernel_rfl)
  obtain ⟨sa, f1, f2, f3, f4⟩ := row_arg hx hA (e := 4353) (c := 4) (by decide) (by kernel_rfl) (by kernel_rfl) (by kernel_rfl)
  obtain ⟨ao, g1, g2, g3, g4⟩ := row_arg hx hA (e := 17895682) (c := 6) (by decide) (by kernel_rfl) (by kernel_rfl) (by kernel_rfl)
  have e1' : SC.den ρ (fun _ => 0) (.xs 4352 (.lit 0) (.iv 2) (.iv 3)) = .slice ra (ρ.i 2).toNat (ρ.i 3).toNat := e1
  have f1' : SC.den ρ (fun _ => 0) (.xs 4353 (.lit 0) (.iv 4) (.iv 5)) = .slice sa (ρ.i 4).toNat (ρ.i 5).toNat := f1
  have g1' : SC.den ρ (fun _ => 0) (.xs 17895682 (.lit 0) (.iv 6) (.iv 7)) = .slice ao (ρ.i 6).toNat (ρ.i 7).toNat := g1
  simp only [ssL, List.map_cons, List.map_nil, SV.den, e1', f1', g1']
  exact fsound_law _ _ ra _ _ sa _ _ _ _ _ _ ao _ _ _ _ _ _ _ w e3 f3 g3 (rg_row ρ rfl e2) (rg_row ρ rfl f2) (en_row ρ rfl g2)

def zeros : Env := ⟨fun _ => 0, fun _ => false, fun _ _ => 0, fun _ _ => true, fun _ => .bool false, fun _ => ⟨⟨0, 0, none⟩, .cells #[] 0 (0, 0)⟩⟩
set_option maxRecDepth 100000 in
theorem lifted6 (os : Os) (started : os.Started) (H : Type) (enc : TypeId × Value → H) :
    ReturnsInHanded {} Try.checked os 6 .any (Rows.flowSoundSpec.pre6 enc Try.prog Try.f6 Rows.flowSoundRow.domain false) (Rows.flowSoundSpec.post enc Try.prog Try.f6 false true false false) := by
  refine returnsInHanded_of_change (C := Try.checked) own started (by kernel_rfl) Try.func6
    (ChangeSpec.witness6 (enc := enc) (C := Try.checked) false ⟨#[], (ssL.map (SV.den zeros fun _ => 0)).toArray, []⟩ 8 (by kernel_rfl) (by kernel_rfl) (by kernel_rfl) (by kernel_rfl)) ?_
  intro W base args ds gs before hval0 hW _ _
  have hval : ∀ (j : Nat) t v, Try.f6.params[j]? = some t → args[j]? = some v → Value.okWide Try.prog W .any base t v := hval0
  have hW' := hW
  obtain ⟨p, q, hA0, hV, rfl, _, _⟩ := hW
  have hA : DataW.TrodAll enc Try.prog W 0 (fun _ => true) true Try.f6.params.toList args.toList ds p := hA0
  obtain ⟨rfl, rfl⟩ := trodVars_none hV
  have hA1 := hA
  rw [Try.params6] at hA1
  obtain ⟨v0, v1, d0, d1, p0, p1, _, rfl, _, _, _⟩ := trodAll_two hA1
  refine (rows_hand (r := .any) (base := base) argsL (fun j t v ht hv => hval j t v (by simpa using ht) hv) hA (fun ρ hk hx => law_env ρ W hk hx)).mono fun e W' ⟨he, hb⟩ => ?_
  subst he
  exact ⟨_, rfl, law_post (tb := 4) laid rfl (by rw [Try.params6]; intro t ht; simp at ht; first | (subst ht; exact ⟨by kernel_rfl, of_decide_eq_true (by kernel_rfl)⟩) | (rcases ht with rfl | rfl <;> exact ⟨by kernel_rfl, of_decide_eq_true (by kernel_rfl)⟩) | (rcases ht with rfl | rfl | rfl <;> exact ⟨by kernel_rfl, of_decide_eq_true (by kernel_rfl)⟩)) rfl Try.underlying4 hW' hA hb ⟨rfl, rfl, rfl⟩⟩

theorem flowSound_holds : Rows.FlowSoundSaid :=
  OpenClaim.holds_of_wide 6 Try.f6 rfl rfl rfl rfl rfl rfl rfl ⟨rfl, rfl, rfl, rfl, rfl⟩ rfl rfl rfl rfl rfl (by kernel_rfl) Try.func6 (by kernel_rfl)
    (of_decide_eq_true (by kernel_rfl)) (by unfold Func.isWrapper; first | (rw [if_pos (by decide +kernel)]; kernel_rfl) | (rw [if_neg (by decide +kernel)]; exact ⟨rfl, rfl⟩))
    (fun os started H enc _ => lifted6 os started H enc)
#print axioms flowSound_holds
end Go.Proofs.Ythehpoipeapiaaa
