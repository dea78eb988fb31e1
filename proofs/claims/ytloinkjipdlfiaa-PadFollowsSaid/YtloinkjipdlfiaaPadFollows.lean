/- For every input PadFollows answers true. -/
import Derived.Test.YtloinkjipdlfiaaRows
import Derived.Test.YtloinkjipdlfiaaSx19
namespace Go.Proofs.Ytloinkjipdlfiaa
open Go.ChangeShapes Go.WideShapes Go.ChangeAt Go.RowKit Go.Sx

theorem own : ownKnob Try.prog.godebug = none := by kernel_rfl
theorem laid : laidOutB Try.prog = true := by kernel_rfl
theorem mixed : Try.prog.follows .mixedOrders = true := by kernel_rfl

def ss4 : List SV := [SV.agg [SC.cb (X.bv 0), SC.ci IntKind.u8 (X.iv 1), SC.cb (X.bv 2), SC.ci IntKind.u8 (X.iv 3), SC.cb (X.bv 4), SC.ci IntKind.u8 (X.iv 5), SC.cb (X.bv 6), SC.ci IntKind.u8 (X.iv 7), SC.cb (X.bv 8), SC.ci IntKind.u8 (X.iv 9), SC.ci IntKind.i64 (X.iv 10)], SV.agg [SC.ci IntKind.u8 (X.iv 11), SC.cb (X.bv 12), SC.ci IntKind.u8 (X.iv 13), SC.cb (X.bv 14)]]
def ks4 : List LK := [LK.b, LK.i IntKind.u8, LK.b, LK.i IntKind.u8, LK.b, LK.i IntKind.u8, LK.b, LK.i IntKind.u8, LK.b, LK.i IntKind.u8, LK.i IntKind.i64, LK.i IntKind.u8, LK.b, LK.i IntKind.u8, LK.b]
theorem args4 : argTs Try.prog Try.f4.params.toList 0 = some (ss4, ks4) := by kernel_rfl
theorem shown4 : (tree Try.prog (fun _ => none) 300 4 ss4 bare 0 ⟨ks4.map LK.rg, []⟩).prove 300 100 ⟨ks4.map LK.rg, []⟩ = true := by kernel_rfl
def zeros : Env := ⟨fun _ => 0, fun _ => false, fun _ _ => 0, fun _ _ => false, fun _ => .bool false⟩
set_option maxRecDepth 100000 in
theorem lifted4 (os : Os) (started : os.Started) (H : Type) (enc : TypeId × Value → H) :
    ReturnsInHanded {} Try.checked os 4 .any (Rows.padFollowsSpec.pre6 enc Try.prog Try.f4 Rows.padFollowsRow.domain false) (Rows.padFollowsSpec.post enc Try.prog Try.f4 false true false false) := by
  refine returnsInHanded_of_change (C := Try.checked) own started (by kernel_rfl) Try.func4
    (ChangeSpec.witness6 (enc := enc) (C := Try.checked) false ⟨#[], (ss4.map (SV.den zeros fun _ => 0)).toArray, []⟩ 8 (by kernel_rfl) (by kernel_rfl) (by kernel_rfl) (by kernel_rfl)) ?_
  intro W base args ds gs before hval0 hW _ _
  have hval : ∀ (j : Nat) t v, Try.f4.params[j]? = some t → args[j]? = some v → Value.okWide Try.prog W .any base t v := hval0
  have hW' := hW
  obtain ⟨p, q, hA0, hV, rfl, _, _⟩ := hW
  have hA : DataW.TrodAll enc Try.prog W 0 (fun _ => true) true Try.f4.params.toList args.toList ds p := hA0
  obtain ⟨rfl, rfl⟩ := trodVars_none hV
  have hA1 := hA
  rw [Try.params4] at hA1
  obtain ⟨v0, v1, d0, d1, p0, p1, e1, rfl, _, _, _⟩ := trodAll_two hA1
  refine (flat_true (r := .any) (base := base) mixed args4 shown4 (w := W) (by rw [e1]; rfl) (fun j t v ht hv => hval j t v (by simpa using ht) hv)).mono fun e W' ⟨⟨v, he, hv⟩, hb⟩ => ?_
  subst hv
  subst he
  exact ⟨_, rfl, law_post (tb := 4) laid rfl (by rw [Try.params4]; intro t ht; simp at ht; first | (subst ht; exact ⟨by kernel_rfl, of_decide_eq_true (by kernel_rfl)⟩) | (rcases ht with rfl | rfl <;> exact ⟨by kernel_rfl, of_decide_eq_true (by kernel_rfl)⟩) | (rcases ht with rfl | rfl | rfl <;> exact ⟨by kernel_rfl, of_decide_eq_true (by kernel_rfl)⟩)) rfl Try.underlying4 hW' hA hb ⟨rfl, rfl, rfl⟩⟩

theorem padFollows_holds : Rows.PadFollowsSaid :=
  OpenClaim.holds_of_wide 4 Try.f4 rfl rfl rfl rfl rfl rfl rfl ⟨rfl, rfl, rfl, rfl, rfl⟩ rfl rfl rfl rfl rfl (by kernel_rfl) Try.func4 (by kernel_rfl)
    (of_decide_eq_true (by kernel_rfl)) (by unfold Func.isWrapper; first | (rw [if_pos (by decide +kernel)]; kernel_rfl) | (rw [if_neg (by decide +kernel)]; exact ⟨rfl, rfl⟩))
    (fun os started H enc _ => lifted4 os started H enc)
#print axioms padFollows_holds
end Go.Proofs.Ytloinkjipdlfiaa
