/- For every input AluAlike answers true. -/
import Derived.Test.YtdgjenlejalgeaaRows
import Derived.Test.YtdgjenlejalgeaaBl11
namespace Go.Proofs.Ytdgjenlejalgeaa
open Go.ChangeShapes Go.WideShapes Go.ChangeAt Go.RowKit Go.Sx

theorem own : ownKnob Try.prog.godebug = none := by kernel_rfl
theorem laid : laidOutB Try.prog = true := by kernel_rfl

def ssL : List SV := [.agg [.ci .u8 (.iv 0), .ci .u8 (.iv 1), .ci .u8 (.iv 2), .cb (.bv 3), .ci .u8 (.iv 4), .cb (.bv 5), .ci .u8 (.iv 6), .cb (.bv 7), .ci .u8 (.iv 8), .ci .u8 (.iv 9), .ci .u8 (.iv 10)]]
def ksL : List LK := [.i .u8, .i .u8, .i .u8, .b, .i .u8, .b, .i .u8, .b, .i .u8, .i .u8, .i .u8]
theorem argsL : argRs Try.prog Try.f7.params.toList 0 0 = some (ssL, ksL, []) := by kernel_rfl
theorem law_env (ρ : Env) (w : World) (hA : (addRows [] ⟨ksL.map LK.rg, []⟩).ok ρ) (_hx : Go.Sx.RowsIn ρ w) :
    Calls Try.prog 7 (ssL.map (SV.den ρ fun _ => 0)).toArray w fun e w' => e = .returned (.bool true) ∧ Below w.heap.size w w' := by
  have h0 := hA.1 0 _ _ rfl
  have h1 := hA.1 1 _ _ rfl
  simp only [ssL, List.map_cons, List.map_nil]
  exact aalike_law (ρ.i 0) (ρ.i 1) (ρ.i 2) (ρ.i 4) (ρ.i 6) (ρ.i 8) (ρ.i 9) (ρ.i 10) (ρ.b 3) (ρ.b 5) (ρ.b 7) h0.1 h0.2 h1.1 h1.2 w

def zeros : Env := ⟨fun _ => 0, fun _ => false, fun _ _ => 0, fun _ _ => true, fun _ => .bool false, fun _ => ⟨⟨0, 0, none⟩, .cells #[] 0 (0, 0)⟩⟩
set_option maxRecDepth 100000 in
theorem lifted7 (os : Os) (started : os.Started) (H : Type) (enc : TypeId × Value → H) :
    ReturnsInHanded {} Try.checked os 7 .any (Rows.aluAlikeSpec.pre6 enc Try.prog Try.f7 Rows.aluAlikeRow.domain false) (Rows.aluAlikeSpec.post enc Try.prog Try.f7 false true false false) := by
  refine returnsInHanded_of_change (C := Try.checked) own started (by kernel_rfl) Try.func7
    (ChangeSpec.witness6 (enc := enc) (C := Try.checked) false ⟨#[], (ssL.map (SV.den zeros fun _ => 0)).toArray, []⟩ 8 (by kernel_rfl) (by kernel_rfl) (by kernel_rfl) (by kernel_rfl)) ?_
  intro W base args ds gs before hval0 hW _ _
  have hval : ∀ (j : Nat) t v, Try.f7.params[j]? = some t → args[j]? = some v → Value.okWide Try.prog W .any base t v := hval0
  have hW' := hW
  obtain ⟨p, q, hA0, hV, rfl, _, _⟩ := hW
  have hA : DataW.TrodAll enc Try.prog W 0 (fun _ => true) true Try.f7.params.toList args.toList ds p := hA0
  obtain ⟨rfl, rfl⟩ := trodVars_none hV
  have hA1 := hA
  rw [Try.params7] at hA1
  obtain ⟨v0, d0, _, rfl, _⟩ := trodAll_one hA1
  refine (rows_hand (r := .any) (base := base) argsL (fun j t v ht hv => hval j t v (by simpa using ht) hv) hA (fun ρ hk hx => law_env ρ W hk hx)).mono fun e W' ⟨he, hb⟩ => ?_
  subst he
  exact ⟨_, rfl, law_post (tb := 4) laid rfl (by rw [Try.params7]; intro t ht; simp at ht; first | (subst ht; exact ⟨by kernel_rfl, of_decide_eq_true (by kernel_rfl)⟩) | (rcases ht with rfl | rfl <;> exact ⟨by kernel_rfl, of_decide_eq_true (by kernel_rfl)⟩) | (rcases ht with rfl | rfl | rfl <;> exact ⟨by kernel_rfl, of_decide_eq_true (by kernel_rfl)⟩)) rfl Try.underlying4 hW' hA hb ⟨rfl, rfl, rfl⟩⟩

theorem aluAlike_holds : Rows.AluAlikeSaid :=
  OpenClaim.holds_of_wide 7 Try.f7 rfl rfl rfl rfl rfl rfl rfl ⟨rfl, rfl, rfl, rfl, rfl⟩ rfl rfl rfl rfl rfl (by kernel_rfl) Try.func7 (by kernel_rfl)
    (of_decide_eq_true (by kernel_rfl)) (by unfold Func.isWrapper; first | (rw [if_pos (by decide +kernel)]; kernel_rfl) | (rw [if_neg (by decide +kernel)]; exact ⟨rfl, rfl⟩))
    (fun os started H enc _ => lifted7 os started H enc)
#print axioms aluAlike_holds
end Go.Proofs.Ytdgjenlejalgeaa
