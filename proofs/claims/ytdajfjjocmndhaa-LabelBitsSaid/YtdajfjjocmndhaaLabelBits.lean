/- For every input LabelBits answers true. -/
import Derived.Test.YtdajfjjocmndhaaRows
import Derived.Test.YtdajfjjocmndhaaSx19
namespace Go.Proofs.Ytdajfjjocmndhaa
open Go.ChangeShapes Go.WideShapes Go.ChangeAt Go.RowKit Go.Sx

theorem own : ownKnob Try.prog.godebug = none := by kernel_rfl
theorem laid : laidOutB Try.prog = true := by kernel_rfl
theorem mixed : Try.prog.follows .mixedOrders = true := by kernel_rfl

def ss7 : List SV := [SV.agg [SC.ci IntKind.u8 (X.iv 0), SC.cb (X.bv 1), SC.ci IntKind.u8 (X.iv 2), SC.cb (X.bv 3), SC.ci IntKind.u8 (X.iv 4), SC.cb (X.bv 5), SC.ci IntKind.u8 (X.iv 6), SC.ci IntKind.u8 (X.iv 7), SC.ci IntKind.u8 (X.iv 8), SC.ci IntKind.i64 (X.iv 9), SC.ci IntKind.u16 (X.iv 10), SC.cb (X.bv 11)]]
def ks7 : List LK := [LK.i IntKind.u8, LK.b, LK.i IntKind.u8, LK.b, LK.i IntKind.u8, LK.b, LK.i IntKind.u8, LK.i IntKind.u8, LK.i IntKind.u8, LK.i IntKind.i64, LK.i IntKind.u16, LK.b]
theorem args7 : argTs Try.prog Try.f7.params.toList 0 = some (ss7, ks7) := by kernel_rfl
theorem shown7 : (tree Try.prog (fun _ => none) 300 7 ss7 bare 0 ⟨ks7.map LK.rg, []⟩).prove 300 100 ⟨ks7.map LK.rg, []⟩ = true := by kernel_rfl
def zeros : Env := ⟨fun _ => 0, fun _ => false, fun _ _ => 0, fun _ _ => false, fun _ => .bool false⟩
set_option maxRecDepth 100000 in
theorem lifted7 (os : Os) (started : os.Started) (H : Type) (enc : TypeId × Value → H) :
    ReturnsInHanded {} Try.checked os 7 .any (Rows.labelBitsSpec.pre6 enc Try.prog Try.f7 Rows.labelBitsRow.domain false) (Rows.labelBitsSpec.post enc Try.prog Try.f7 false true false false) := by
  refine returnsInHanded_of_change (C := Try.checked) own started (by kernel_rfl) Try.func7
    (ChangeSpec.witness6 (enc := enc) (C := Try.checked) false ⟨#[], (ss7.map (SV.den zeros fun _ => 0)).toArray, []⟩ 8 (by kernel_rfl) (by kernel_rfl) (by kernel_rfl) (by kernel_rfl)) ?_
  intro W base args ds gs before hval0 hW _ _
  have hval : ∀ (j : Nat) t v, Try.f7.params[j]? = some t → args[j]? = some v → Value.okWide Try.prog W .any base t v := hval0
  have hW' := hW
  obtain ⟨p, q, hA0, hV, rfl, _, _⟩ := hW
  have hA : DataW.TrodAll enc Try.prog W 0 (fun _ => true) true Try.f7.params.toList args.toList ds p := hA0
  obtain ⟨rfl, rfl⟩ := trodVars_none hV
  have hA1 := hA
  rw [Try.params7] at hA1
  obtain ⟨v0, d0, e1, rfl, _⟩ := trodAll_one hA1
  refine (flat_true (r := .any) (base := base) mixed args7 shown7 (w := W) (by rw [e1]; rfl) (fun j t v ht hv => hval j t v (by simpa using ht) hv)).mono fun e W' ⟨⟨v, he, hv⟩, hb⟩ => ?_
  subst hv
  subst he
  exact ⟨_, rfl, law_post (tb := 4) laid rfl (by rw [Try.params7]; intro t ht; simp at ht; subst ht; exact ⟨by kernel_rfl, of_decide_eq_true (by kernel_rfl)⟩) rfl Try.underlying4 hW' hA hb ⟨rfl, rfl, rfl⟩⟩

theorem labelBits_holds : Rows.LabelBitsSaid :=
  OpenClaim.holds_of_wide 7 Try.f7 rfl rfl rfl rfl rfl rfl rfl ⟨rfl, rfl, rfl, rfl, rfl⟩ rfl rfl rfl rfl rfl (by kernel_rfl) Try.func7 (by kernel_rfl)
    (of_decide_eq_true (by kernel_rfl)) (by unfold Func.isWrapper; first | (rw [if_pos (by decide +kernel)]; kernel_rfl) | (rw [if_neg (by decide +kernel)]; exact ⟨rfl, rfl⟩))
    (fun os started H enc _ => lifted7 os started H enc)
#print axioms labelBits_holds
end Go.Proofs.Ytdajfjjocmndhaa
