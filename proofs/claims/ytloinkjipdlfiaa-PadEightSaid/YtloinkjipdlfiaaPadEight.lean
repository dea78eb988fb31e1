/- For every input PadEight answers true. -/
import Derived.Test.YtloinkjipdlfiaaRows
import Derived.Test.YtloinkjipdlfiaaSx20
namespace Go.Proofs.Ytloinkjipdlfiaa
open Go.ChangeShapes Go.WideShapes Go.ChangeAt Go.RowKit Go.Sx

theorem own : ownKnob Try.prog.godebug = none := by kernel_rfl
theorem laid : laidOutB Try.prog = true := by kernel_rfl
theorem mixed : Try.prog.follows .mixedOrders = true := by kernel_rfl

def v11 : ST := .v (.agg [.cb (.bv 0), .ci .u8 (.ite (.bv 0) (.iv 5) (.iv 1)), .cb (.ite (.bv 0) (.bv 6) (.bv 2)), .ci .u8 (.ite (.bv 0) (.iv 7) (.iv 3)), .cb (.ite (.bv 0) (.bv 8) (.bv 4))])
def ss11 : List SV := [.agg [.cb (.bv 0), .ci .u8 (.iv 1), .cb (.bv 2), .ci .u8 (.iv 3), .cb (.bv 4)], .agg [.ci .u8 (.iv 5), .cb (.bv 6), .ci .u8 (.iv 7), .cb (.bv 8)]]
def ks11 : List LK := [.b, .i .u8, .b, .i .u8, .b, .i .u8, .b, .i .u8, .b]
theorem args11 : argTs Try.prog Try.f11.params.toList 0 = some (ss11, ks11) := by kernel_rfl
theorem tree11 : tree Try.prog 12 (sumsIn []) 300 11 ss11 bare 0 ⟨ks11.map LK.rg, []⟩ = .leaf v11 := by kernel_rfl
def sums11 : List Sm := ⟨11, ss11, ks11, v11⟩ :: []
theorem sok11 : SumsOk Try.prog sums11 := sums_cons mixed sums_nil args11 tree11 (by kernel_rfl)
def x8_4 : X := .cmp .gtr (.bin .and .u8 (.iv 5) (.lit (.ofNat 1))) (.lit (.ofNat 0))
def v8 : ST := .v (.agg [.cb x8_4, .ci .u8 (.ite x8_4 (.iv 6) (.iv 1)), .cb (.ite x8_4 (.bv 7) (.bv 2)), .ci .u8 (.ite x8_4 (.iv 8) (.iv 3)), .cb (.ite x8_4 (.bv 9) (.bv 4))])
def ss8 : List SV := [.agg [.cb (.bv 0), .ci .u8 (.iv 1), .cb (.bv 2), .ci .u8 (.iv 3), .cb (.bv 4)], .c (.ci .u8 (.iv 5)), .agg [.ci .u8 (.iv 6), .cb (.bv 7), .ci .u8 (.iv 8), .cb (.bv 9)]]
def ks8 : List LK := [.b, .i .u8, .b, .i .u8, .b, .i .u8, .i .u8, .b, .i .u8, .b]
theorem args8 : argTs Try.prog Try.f8.params.toList 0 = some (ss8, ks8) := by kernel_rfl
theorem tree8 : tree Try.prog 12 (sumsIn sums11) 300 8 ss8 bare 0 ⟨ks8.map LK.rg, []⟩ = .leaf v8 := by kernel_rfl
def sums8 : List Sm := ⟨8, ss8, ks8, v8⟩ :: sums11
theorem sok8 : SumsOk Try.prog sums8 := sums_cons mixed sok11 args8 tree8 (by kernel_rfl)
def v20 : ST := .v (.agg [.ci .u8 (.ite (.or (.cmp .lss (.iv 2) (.lit (.ofNat 0))) (.cmp .gtr (.iv 2) (.lit (.ofNat 7)))) (.lit (.ofNat 0)) (.bin .and .u8 (.bin .shr .u8 (.iv 0) (.iv 2)) (.lit (.ofNat 1)))), .cb (.bv 1)])
def ss20 : List SV := [.agg [.ci .u8 (.iv 0), .cb (.bv 1)], .c (.ci .i64 (.iv 2))]
def ks20 : List LK := [.i .u8, .b, .i .i64]
theorem args20 : argTs Try.prog Try.f20.params.toList 0 = some (ss20, ks20) := by kernel_rfl
theorem tree20 : tree Try.prog 12 (sumsIn sums8) 300 20 ss20 bare 0 ⟨ks20.map LK.rg, []⟩ = .leaf v20 := by kernel_rfl
def sums20 : List Sm := ⟨20, ss20, ks20, v20⟩ :: sums8
theorem sok20 : SumsOk Try.prog sums20 := sums_cons mixed sok8 args20 tree20 (by kernel_rfl)
def v21 : ST := .v (.agg [.ci .u8 (.iv 0), .cb (.bl false)])
def ss21 : List SV := [.c (.ci .u8 (.iv 0))]
def ks21 : List LK := [.i .u8]
theorem args21 : argTs Try.prog Try.f21.params.toList 0 = some (ss21, ks21) := by kernel_rfl
theorem tree21 : tree Try.prog 12 (sumsIn sums20) 300 21 ss21 bare 0 ⟨ks21.map LK.rg, []⟩ = .leaf v21 := by kernel_rfl
def sums21 : List Sm := ⟨21, ss21, ks21, v21⟩ :: sums20
theorem sok21 : SumsOk Try.prog sums21 := sums_cons mixed sok20 args21 tree21 (by kernel_rfl)
def v19 : ST := .v (.agg [.ci .u8 (.bin .or .u8 (.iv 0) (.iv 2)), .cb (.or (.bv 1) (.and (.not (.bv 1)) (.bv 3)))])
def ss19 : List SV := [.agg [.ci .u8 (.iv 0), .cb (.bv 1)], .agg [.ci .u8 (.iv 2), .cb (.bv 3)]]
def ks19 : List LK := [.i .u8, .b, .i .u8, .b]
theorem args19 : argTs Try.prog Try.f19.params.toList 0 = some (ss19, ks19) := by kernel_rfl
theorem tree19 : tree Try.prog 12 (sumsIn sums21) 300 19 ss19 bare 0 ⟨ks19.map LK.rg, []⟩ = .leaf v19 := by kernel_rfl
def sums19 : List Sm := ⟨19, ss19, ks19, v19⟩ :: sums21
theorem sok19 : SumsOk Try.prog sums19 := sums_cons mixed sok21 args19 tree19 (by kernel_rfl)
def x9_6 : X := .or (.cmp .lss (.iv 5) (.lit (.ofNat 0))) (.cmp .geq (.iv 5) (.lit (.ofNat 2)))
def x9_7 : X := .not x9_6
def x9_10 : X := .or x9_6 (.and x9_7 (.cmp .eql (.iv 5) (.lit (.ofNat 0))))
def x9_12 : X := .not (.bv 0)
def v9 : ST := .tup [.agg [.cb (.bv 0), .ci .u8 (.ite x9_10 (.ite x9_6 (.iv 1) (.ite x9_12 (.bin .or .u8 (.bin .shr .u8 (.iv 1) (.lit (.ofNat 1))) (.lit (.ofNat 128))) (.iv 1))) (.iv 1)), .cb (.bv 2), .ci .u8 (.ite x9_10 (.iv 3) (.ite x9_12 (.bin .or .u8 (.bin .shr .u8 (.iv 3) (.lit (.ofNat 1))) (.lit (.ofNat 128))) (.iv 3))), .cb (.bv 4)], .agg [.ci .u8 (.ite x9_10 (.ite x9_6 (.lit (.ofNat 0)) (.bin .or .u8 (.bin .and .u8 (.bin .shr .u8 (.iv 1) (.lit (.ofNat 0))) (.lit (.ofNat 1))) (.lit (.ofNat 64)))) (.bin .or .u8 (.bin .and .u8 (.bin .shr .u8 (.iv 3) (.lit (.ofNat 0))) (.lit (.ofNat 1))) (.lit (.ofNat 64)))), .cb (.ite x9_10 (.and x9_7 (.bv 2)) (.bv 4))], .c (.ci .i64 (.ite x9_10 (.ite x9_6 (.lit (.ofNat 1)) (.lit (.ofNat 0))) (.lit (.ofNat 0))))]
def ss9 : List SV := [.agg [.cb (.bv 0), .ci .u8 (.iv 1), .cb (.bv 2), .ci .u8 (.iv 3), .cb (.bv 4)], .c (.ci .i64 (.iv 5))]
def ks9 : List LK := [.b, .i .u8, .b, .i .u8, .b, .i .i64]
theorem args9 : argTs Try.prog Try.f9.params.toList 0 = some (ss9, ks9) := by kernel_rfl
theorem tree9 : tree Try.prog 12 (sumsIn sums19) 300 9 ss9 bare 0 ⟨ks9.map LK.rg, []⟩ = .leaf v9 := by kernel_rfl
def sums9 : List Sm := ⟨9, ss9, ks9, v9⟩ :: sums19
theorem sok9 : SumsOk Try.prog sums9 := sums_cons mixed sok19 args9 tree9 (by kernel_rfl)
def v10 : ST := .v (.c (.cb (.bl true)))
def ss10 : List SV := []
def ks10 : List LK := []
theorem args10 : argTs Try.prog Try.f10.params.toList 0 = some (ss10, ks10) := by kernel_rfl
theorem tree10 : tree Try.prog 12 (sumsIn sums9) 300 10 ss10 bare 0 ⟨ks10.map LK.rg, []⟩ = .leaf v10 := by kernel_rfl
def sums10 : List Sm := ⟨10, ss10, ks10, v10⟩ :: sums9
theorem sok10 : SumsOk Try.prog sums10 := sums_cons mixed sok9 args10 tree10 (by kernel_rfl)
def ss3 : List SV := [.agg [.cb (.bv 0), .ci .u8 (.iv 1), .cb (.bv 2), .ci .u8 (.iv 3), .cb (.bv 4), .ci .u8 (.iv 5), .cb (.bv 6), .ci .u8 (.iv 7), .cb (.bv 8), .ci .u8 (.iv 9), .ci .i64 (.iv 10)]]
def ks3 : List LK := [.b, .i .u8, .b, .i .u8, .b, .i .u8, .b, .i .u8, .b, .i .u8, .i .i64]
theorem args3 : argTs Try.prog Try.f3.params.toList 0 = some (ss3, ks3) := by kernel_rfl
def c0 : X := .cmp .eql (.bin .and .i64 (.iv 10) (.lit (.ofNat 1))) (.lit (.ofNat 0))
def K_1 : Known := ((⟨ks3.map LK.rg, []⟩ : Known).assume c0 true)
theorem leaf_1 : (tree Try.prog 3 (sumsIn sums10) 300 3 ss3 bare 8 K_1).prove 300 100 K_1 = true := by kernel_rfl
def K_0 : Known := ((⟨ks3.map LK.rg, []⟩ : Known).assume c0 false)
theorem leaf_0 : (tree Try.prog 3 (sumsIn sums10) 300 3 ss3 bare 8 K_0).prove 300 100 K_0 = true := by kernel_rfl
theorem plan3 : ∀ ρ, (⟨ks3.map LK.rg, []⟩ : Known).ok ρ → ∃ K d, K.ok ρ ∧ (tree Try.prog 3 (sumsIn sums10) 300 3 ss3 bare d K).prove 300 100 K = true := fun ρ h => split_on c0 h (fun h => ⟨K_1, 8, h, leaf_1⟩) (fun h => ⟨K_0, 8, h, leaf_0⟩)

def zeros : Env := ⟨fun _ => 0, fun _ => false, fun _ _ => 0, fun _ _ => false, fun _ => .bool false⟩
set_option maxRecDepth 100000 in
theorem lifted3 (os : Os) (started : os.Started) (H : Type) (enc : TypeId × Value → H) :
    ReturnsInHanded {} Try.checked os 3 .any (Rows.padEightSpec.pre6 enc Try.prog Try.f3 Rows.padEightRow.domain false) (Rows.padEightSpec.post enc Try.prog Try.f3 false true false false) := by
  refine returnsInHanded_of_change (C := Try.checked) own started (by kernel_rfl) Try.func3
    (ChangeSpec.witness6 (enc := enc) (C := Try.checked) false ⟨#[], (ss3.map (SV.den zeros fun _ => 0)).toArray, []⟩ 8 (by kernel_rfl) (by kernel_rfl) (by kernel_rfl) (by kernel_rfl)) ?_
  intro W base args ds gs before hval0 hW _ _
  have hval : ∀ (j : Nat) t v, Try.f3.params[j]? = some t → args[j]? = some v → Value.okWide Try.prog W .any base t v := hval0
  have hW' := hW
  obtain ⟨p, q, hA0, hV, rfl, _, _⟩ := hW
  have hA : DataW.TrodAll enc Try.prog W 0 (fun _ => true) true Try.f3.params.toList args.toList ds p := hA0
  obtain ⟨rfl, rfl⟩ := trodVars_none hV
  have hA1 := hA
  rw [Try.params3] at hA1
  obtain ⟨v0, d0, e1, rfl, _⟩ := trodAll_one hA1
  refine (flat_plan (r := .any) (base := base) mixed sok10 args3 plan3 (w := W) (by rw [e1]; rfl) (fun j t v ht hv => hval j t v (by simpa using ht) hv)).mono fun e W' ⟨⟨v, he, hv⟩, hb⟩ => ?_
  subst hv
  subst he
  exact ⟨_, rfl, law_post (tb := 4) laid rfl (by rw [Try.params3]; intro t ht; simp at ht; first | (subst ht; exact ⟨by kernel_rfl, of_decide_eq_true (by kernel_rfl)⟩) | (rcases ht with rfl | rfl <;> exact ⟨by kernel_rfl, of_decide_eq_true (by kernel_rfl)⟩) | (rcases ht with rfl | rfl | rfl <;> exact ⟨by kernel_rfl, of_decide_eq_true (by kernel_rfl)⟩)) rfl Try.underlying4 hW' hA hb ⟨rfl, rfl, rfl⟩⟩

theorem padEight_holds : Rows.PadEightSaid :=
  OpenClaim.holds_of_wide 3 Try.f3 rfl rfl rfl rfl rfl rfl rfl ⟨rfl, rfl, rfl, rfl, rfl⟩ rfl rfl rfl rfl rfl (by kernel_rfl) Try.func3 (by kernel_rfl)
    (of_decide_eq_true (by kernel_rfl)) (by unfold Func.isWrapper; first | (rw [if_pos (by decide +kernel)]; kernel_rfl) | (rw [if_neg (by decide +kernel)]; exact ⟨rfl, rfl⟩))
    (fun os started H enc _ => lifted3 os started H enc)
#print axioms padEight_holds
end Go.Proofs.Ytloinkjipdlfiaa
