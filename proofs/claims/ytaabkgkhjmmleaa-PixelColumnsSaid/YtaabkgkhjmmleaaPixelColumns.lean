/- For every input PixelColumns answers true. -/
import Derived.Test.YtaabkgkhjmmleaaRows
import Derived.Test.YtaabkgkhjmmleaaSx19
namespace Go.Proofs.Ytaabkgkhjmmleaa
open Go.ChangeShapes Go.WideShapes Go.ChangeAt Go.RowKit Go.Sx

theorem own : ownKnob Try.prog.godebug = none := by kernel_rfl
theorem laid : laidOutB Try.prog = true := by kernel_rfl
theorem mixed : Try.prog.follows .mixedOrders = true := by kernel_rfl

def ss6 : List SV := [SV.agg [SC.ci IntKind.u8 (X.iv 0), SC.ci IntKind.u8 (X.iv 1), SC.ci IntKind.u8 (X.iv 2), SC.ci IntKind.u8 (X.iv 3), SC.ci IntKind.i64 (X.iv 4), SC.cb (X.bv 5), SC.cb (X.bv 6)], SV.c (SC.ci IntKind.u8 (X.iv 7)), SV.c (SC.ci IntKind.u8 (X.iv 8))]
def ks6 : List LK := [LK.i IntKind.u8, LK.i IntKind.u8, LK.i IntKind.u8, LK.i IntKind.u8, LK.i IntKind.i64, LK.b, LK.b, LK.i IntKind.u8, LK.i IntKind.u8]
theorem args6 : argTs Try.prog Try.f6.params.toList 0 = some (ss6, ks6) := by kernel_rfl
theorem shown6 : (tree Try.prog (fun _ => none) 300 6 ss6 bare 0 ⟨ks6.map LK.rg, []⟩).prove 300 100 ⟨ks6.map LK.rg, []⟩ = true := by kernel_rfl
def zeros : Env := ⟨fun _ => 0, fun _ => false, fun _ _ => 0, fun _ _ => false, fun _ => .bool false⟩
set_option maxRecDepth 100000 in
theorem lifted6 (os : Os) (started : os.Started) (H : Type) (enc : TypeId × Value → H) :
    ReturnsInHanded {} Try.checked os 6 .any (Rows.pixelColumnsSpec.pre6 enc Try.prog Try.f6 Rows.pixelColumnsRow.domain false) (Rows.pixelColumnsSpec.post enc Try.prog Try.f6 false true false false) := by
  refine returnsInHanded_of_change (C := Try.checked) own started (by kernel_rfl) Try.func6
    (ChangeSpec.witness6 (enc := enc) (C := Try.checked) false ⟨#[], (ss6.map (SV.den zeros fun _ => 0)).toArray, []⟩ 8 (by kernel_rfl) (by kernel_rfl) (by kernel_rfl) (by kernel_rfl)) ?_
  intro W base args ds gs before hval0 hW _ _
  have hval : ∀ (j : Nat) t v, Try.f6.params[j]? = some t → args[j]? = some v → Value.okWide Try.prog W .any base t v := hval0
  have hW' := hW
  obtain ⟨p, q, hA0, hV, rfl, _, _⟩ := hW
  have hA : DataW.TrodAll enc Try.prog W 0 (fun _ => true) true Try.f6.params.toList args.toList ds p := hA0
  obtain ⟨rfl, rfl⟩ := trodVars_none hV
  have hA1 := hA
  rw [Try.params6] at hA1
  obtain ⟨v0, v1, v2, d0, d1, d2, p0, p1, p2, e1, rfl, _, _, _, _⟩ := trodAll_three hA1
  refine (flat_true (r := .any) (base := base) mixed args6 shown6 (w := W) (by rw [e1]; rfl) (fun j t v ht hv => hval j t v (by simpa using ht) hv)).mono fun e W' ⟨⟨v, he, hv⟩, hb⟩ => ?_
  subst hv
  subst he
  exact ⟨_, rfl, law_post (tb := 4) laid rfl (by rw [Try.params6]; intro t ht; simp at ht; first | (subst ht; exact ⟨by kernel_rfl, of_decide_eq_true (by kernel_rfl)⟩) | (rcases ht with rfl | rfl <;> exact ⟨by kernel_rfl, of_decide_eq_true (by kernel_rfl)⟩) | (rcases ht with rfl | rfl | rfl <;> exact ⟨by kernel_rfl, of_decide_eq_true (by kernel_rfl)⟩)) rfl Try.underlying4 hW' hA hb ⟨rfl, rfl, rfl⟩⟩

theorem pixelColumns_holds : Rows.PixelColumnsSaid :=
  OpenClaim.holds_of_wide 6 Try.f6 rfl rfl rfl rfl rfl rfl rfl ⟨rfl, rfl, rfl, rfl, rfl⟩ rfl rfl rfl rfl rfl (by kernel_rfl) Try.func6 (by kernel_rfl)
    (of_decide_eq_true (by kernel_rfl)) (by unfold Func.isWrapper; first | (rw [if_pos (by decide +kernel)]; kernel_rfl) | (rw [if_neg (by decide +kernel)]; exact ⟨rfl, rfl⟩))
    (fun os started H enc _ => lifted6 os started H enc)
#print axioms pixelColumns_holds
end Go.Proofs.Ytaabkgkhjmmleaa
