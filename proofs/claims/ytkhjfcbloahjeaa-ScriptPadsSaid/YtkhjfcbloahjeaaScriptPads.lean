/- For every input ScriptPads answers true. -/
import Derived.Test.YtkhjfcbloahjeaaRows
import Derived.Test.YtkhjfcbloahjeaaPa4
namespace Go.Proofs.Ytkhjfcbloahjeaa
open Go.ChangeShapes Go.WideShapes Go.ChangeAt Go.RowKit Go.Sx

theorem own : ownKnob Try.prog.godebug = none := by kernel_rfl
theorem laid : laidOutB Try.prog = true := by kernel_rfl

def ssL : List SV := [.agg [.str [.xt 640 (.lit 0) (.iv 0)], .xs 257 (.lit 0) (.iv 1) (.iv 2), .str [.xt 642 (.lit 0) (.iv 3)], .str [.xt 643 (.lit 0) (.iv 4)]]]
def ksL : List LK := [.i .i64, .i .i64, .i .i64, .i .i64, .i .i64]
theorem argsL : argRs Try.prog Try.f5.params.toList 0 0 = some (ssL, ksL, [(640, 0), (257, 1), (642, 3), (643, 4)]) := by kernel_rfl
theorem law_env (ρ : Env) (w : World) (hA : (addRows [(640, 0), (257, 1), (642, 3), (643, 4)] ⟨ksL.map LK.rg, []⟩).ok ρ) (hx : Go.Sx.RowsIn ρ w) :
    Calls Try.prog 5 (ssL.map (SV.den ρ fun _ => 0)).toArray w fun e w' => e = .returned (.bool true) ∧ Below w.heap.size w w' := by
  obtain ⟨ao, e1, e2, e3, _⟩ := row_arg hx hA (e := 257) (c := 1) (by decide) (by kernel_rfl) (by kernel_rfl) (by kernel_rfl)
  have e1' : SC.den ρ (fun _ => 0) (.xs 257 (.lit 0) (.iv 1) (.iv 2)) = .slice ao (ρ.i 1).toNat (ρ.i 2).toNat := e1
  simp only [ssL, List.map_cons, List.map_nil, SV.den, e1']
  exact pads_law _ ao _ _ _ _ (fun i => ρ.f (rowF 257 0) [(i : Int)]) w e3 (fun i hi => by
    obtain ⟨b, off, e, hlt, hc⟩ := e2 i hi
    refine ⟨b, off, e, hlt, fun j hj => ?_⟩
    have := hc j hj
    obtain rfl : j = 0 := by omega
    exact this)

def zeros : Env := ⟨fun _ => 0, fun _ => false, fun _ _ => 0, fun _ _ => true, fun _ => .bool false, fun _ => ⟨⟨0, 0, none⟩, .cells #[] 0 (0, 0)⟩⟩
set_option maxRecDepth 100000 in
theorem lifted5 (os : Os) (started : os.Started) (H : Type) (enc : TypeId × Value → H) :
    ReturnsInHanded {} Try.checked os 5 .any (Rows.scriptPadsSpec.pre6 enc Try.prog Try.f5 Rows.scriptPadsRow.domain false) (Rows.scriptPadsSpec.post enc Try.prog Try.f5 false true false false) := by
  refine returnsInHanded_of_change (C := Try.checked) own started (by kernel_rfl) Try.func5
    (ChangeSpec.witness6 (enc := enc) (C := Try.checked) false ⟨#[], (ssL.map (SV.den zeros fun _ => 0)).toArray, []⟩ 8 (by kernel_rfl) (by kernel_rfl) (by kernel_rfl) (by kernel_rfl)) ?_
  intro W base args ds gs before hval0 hW _ _
  have hval : ∀ (j : Nat) t v, Try.f5.params[j]? = some t → args[j]? = some v → Value.okWide Try.prog W .any base t v := hval0
  have hW' := hW
  obtain ⟨p, q, hA0, hV, rfl, _, _⟩ := hW
  have hA : DataW.TrodAll enc Try.prog W 0 (fun _ => true) true Try.f5.params.toList args.toList ds p := hA0
  obtain ⟨rfl, rfl⟩ := trodVars_none hV
  have hA1 := hA
  rw [Try.params5] at hA1
  obtain ⟨v0, d0, _, rfl, _⟩ := trodAll_one hA1
  refine (rows_hand (r := .any) (base := base) argsL (fun j t v ht hv => hval j t v (by simpa using ht) hv) hA (fun ρ hk hx => law_env ρ W hk hx)).mono fun e W' ⟨he, hb⟩ => ?_
  subst he
  exact ⟨_, rfl, law_post (tb := 4) laid rfl (by rw [Try.params5]; intro t ht; simp at ht; first | (subst ht; exact ⟨by kernel_rfl, of_decide_eq_true (by kernel_rfl)⟩) | (rcases ht with rfl | rfl <;> exact ⟨by kernel_rfl, of_decide_eq_true (by kernel_rfl)⟩) | (rcases ht with rfl | rfl | rfl <;> exact ⟨by kernel_rfl, of_decide_eq_true (by kernel_rfl)⟩)) rfl Try.underlying4 hW' hA hb ⟨rfl, rfl, rfl⟩⟩

theorem scriptPads_holds : Rows.ScriptPadsSaid :=
  OpenClaim.holds_of_wide 5 Try.f5 rfl rfl rfl rfl rfl rfl rfl ⟨rfl, rfl, rfl, rfl, rfl⟩ rfl rfl rfl rfl rfl (by kernel_rfl) Try.func5 (by kernel_rfl)
    (of_decide_eq_true (by kernel_rfl)) (by unfold Func.isWrapper; first | (rw [if_pos (by decide +kernel)]; kernel_rfl) | (rw [if_neg (by decide +kernel)]; exact ⟨rfl, rfl⟩))
    (fun os started H enc _ => lifted5 os started H enc)
#print axioms scriptPads_holds
end Go.Proofs.Ytkhjfcbloahjeaa
