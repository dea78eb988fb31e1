/- For every input PixelGrey answers true. -/
import Derived.Test.YtaabkgkhjmmleaaRows
import Derived.Test.YtaabkgkhjmmleaaSx22
namespace Go.Proofs.Ytaabkgkhjmmleaa
open Go.ChangeShapes Go.WideShapes Go.ChangeAt Go.RowKit Go.Sx

theorem own : ownKnob Try.prog.godebug = none := by kernel_rfl
theorem laid : laidOutB Try.prog = true := by kernel_rfl
theorem mixed : Try.prog.follows .mixedOrders = true := by kernel_rfl

def x11_6 : X := .cmp .geq (.iv 1) (.lit (.ofNat 8))
def v11 : ST := .tup [.c (.cb (.and (.cmp .gtr (.bin .and .u8 (.iv 0) (.lit (.ofNat 8))) (.lit (.ofNat 0))) (.or x11_6 (.cmp .gtr (.bin .and .u8 (.iv 0) (.lit (.ofNat 2))) (.lit (.ofNat 0)))))), .c (.cb (.and (.cmp .gtr (.bin .and .u8 (.iv 0) (.lit (.ofNat 16))) (.lit (.ofNat 0))) (.or x11_6 (.cmp .gtr (.bin .and .u8 (.iv 0) (.lit (.ofNat 4))) (.lit (.ofNat 0))))))]
def ss11 : List SV := [.c (.ci .u8 (.iv 0)), .c (.ci .i64 (.iv 1))]
def ks11 : List LK := [.i .u8, .i .i64]
theorem args11 : argTs Try.prog Try.f11.params.toList 0 = some (ss11, ks11) := by kernel_rfl
theorem tree11 : tree Try.prog 12 (sumsIn []) 300 11 ss11 bare 0 ⟨ks11.map LK.rg, []⟩ = .leaf v11 := by kernel_rfl
def sums11 : List Sm := ⟨11, ss11, ks11, v11⟩ :: []
theorem sok11 : SumsOk Try.prog sums11 := sums_cons mixed sums_nil args11 tree11 (by kernel_rfl)
def v21 : ST := .v (.agg [.ci .u8 (.iv 0), .cb (.bl false)])
def ss21 : List SV := [.c (.ci .u8 (.iv 0))]
def ks21 : List LK := [.i .u8]
theorem args21 : argTs Try.prog Try.f21.params.toList 0 = some (ss21, ks21) := by kernel_rfl
theorem tree21 : tree Try.prog 12 (sumsIn sums11) 300 21 ss21 bare 0 ⟨ks21.map LK.rg, []⟩ = .leaf v21 := by kernel_rfl
def sums21 : List Sm := ⟨21, ss21, ks21, v21⟩ :: sums11
theorem sok21 : SumsOk Try.prog sums21 := sums_cons mixed sok11 args21 tree21 (by kernel_rfl)
def v20 : ST := .v (.agg [.ci .u8 (.bin .and .u8 (.iv 0) (.iv 2)), .cb (.or (.bv 1) (.and (.not (.bv 1)) (.bv 3)))])
def ss20 : List SV := [.agg [.ci .u8 (.iv 0), .cb (.bv 1)], .agg [.ci .u8 (.iv 2), .cb (.bv 3)]]
def ks20 : List LK := [.i .u8, .b, .i .u8, .b]
theorem args20 : argTs Try.prog Try.f20.params.toList 0 = some (ss20, ks20) := by kernel_rfl
theorem tree20 : tree Try.prog 12 (sumsIn sums21) 300 20 ss20 bare 0 ⟨ks20.map LK.rg, []⟩ = .leaf v20 := by kernel_rfl
def sums20 : List Sm := ⟨20, ss20, ks20, v20⟩ :: sums21
theorem sok20 : SumsOk Try.prog sums20 := sums_cons mixed sok21 args20 tree20 (by kernel_rfl)
def v19 : ST := .v (.c (.cb (.cmp .gtr (.bin .and .u8 (.iv 0) (.lit (.ofNat 3))) (.lit (.ofNat 0)))))
def ss19 : List SV := [.c (.ci .u8 (.iv 0))]
def ks19 : List LK := [.i .u8]
theorem args19 : argTs Try.prog Try.f19.params.toList 0 = some (ss19, ks19) := by kernel_rfl
theorem tree19 : tree Try.prog 12 (sumsIn sums20) 300 19 ss19 bare 0 ⟨ks19.map LK.rg, []⟩ = .leaf v19 := by kernel_rfl
def sums19 : List Sm := ⟨19, ss19, ks19, v19⟩ :: sums20
theorem sok19 : SumsOk Try.prog sums19 := sums_cons mixed sok20 args19 tree19 (by kernel_rfl)
def x8_7 : X := .cmp .gtr (.bin .and .u8 (.iv 0) (.lit (.ofNat 3))) (.lit (.ofNat 0))
def x8_11 : X := .and (.cmp .gtr (.bin .and .u8 (.iv 1) (.lit (.ofNat 3))) (.lit (.ofNat 0))) (.not (.and x8_7 (.bv 2)))
def v8 : ST := .v (.c (.ci .u8 (.ite (.or x8_11 x8_7) (.ite x8_11 (.bin .or .u8 (.bin .and .u8 (.iv 1) (.lit (.ofNat 15))) (.lit (.ofNat 16))) (.bin .and .u8 (.iv 0) (.lit (.ofNat 15)))) (.lit (.ofNat 0)))))
def ss8 : List SV := [.c (.ci .u8 (.iv 0)), .c (.ci .u8 (.iv 1)), .c (.cb (.bv 2))]
def ks8 : List LK := [.i .u8, .i .u8, .b]
theorem args8 : argTs Try.prog Try.f8.params.toList 0 = some (ss8, ks8) := by kernel_rfl
theorem tree8 : tree Try.prog 12 (sumsIn sums19) 300 8 ss8 bare 0 ⟨ks8.map LK.rg, []⟩ = .leaf v8 := by kernel_rfl
def sums8 : List Sm := ⟨8, ss8, ks8, v8⟩ :: sums19
theorem sok8 : SumsOk Try.prog sums8 := sums_cons mixed sok19 args8 tree8 (by kernel_rfl)
def v9 : ST := .v (.c (.cb (.bl true)))
def ss9 : List SV := []
def ks9 : List LK := []
theorem args9 : argTs Try.prog Try.f9.params.toList 0 = some (ss9, ks9) := by kernel_rfl
theorem tree9 : tree Try.prog 12 (sumsIn sums8) 300 9 ss9 bare 0 ⟨ks9.map LK.rg, []⟩ = .leaf v9 := by kernel_rfl
def sums9 : List Sm := ⟨9, ss9, ks9, v9⟩ :: sums8
theorem sok9 : SumsOk Try.prog sums9 := sums_cons mixed sok8 args9 tree9 (by kernel_rfl)
def ss5 : List SV := [.agg [.ci .u8 (.iv 0), .ci .u8 (.iv 1), .ci .u8 (.iv 2), .ci .u8 (.iv 3), .ci .i64 (.iv 4), .cb (.bv 5), .cb (.bv 6)], .c (.xs 9536 (.lit 0) (.iv 7) (.iv 8))]
def ks5 : List LK := [.i .u8, .i .u8, .i .u8, .i .u8, .i .i64, .b, .b, .i .i64, .i .i64]
def rs5 : List RowV := [(9536, 7)]
theorem args5 : argRs Try.prog Try.f5.params.toList 0 0 = some (ss5, ks5, rs5) := by kernel_rfl
def T (K : Known) : Prop := (tree Try.prog 0 (sumsIn sums9) 300 5 ss5 bare 6 K).prove 300 1000 K = true
def V (K : Known) : Prop := X.prove 20 60 K (.bl false) = true
def c_0 : X := .cmp .neq (.iv 7) (.lit (.ofNat 32))
def c_1 : X := .cmp .gtr (.iv 3) (.lit (.ofNat 31))
def K_0 : Known := addRows rs5 ⟨ks5.map LK.rg, []⟩
def K_1 : Known := K_0.assume c_0 true
def K_2 : Known := K_0.assume c_0 false
def K_3 : Known := K_2.assume c_1 true
def K_4 : Known := K_2.assume c_1 false
theorem leaf_1 : T K_1 := by unfold T; kernel_rfl
theorem leaf_3 : T K_3 := by unfold T; kernel_rfl
theorem leaf_4 : T K_4 := by unfold T; kernel_rfl
theorem plan5 : ∀ ρ, (addRows rs5 ⟨ks5.map LK.rg, []⟩).ok ρ → ∃ K d, K.ok ρ ∧ (tree Try.prog 0 (sumsIn sums9) 300 5 ss5 bare d K).prove 300 1000 K = true := fun _ h => split_on c_0 h (fun (h : K_1.ok _) => ⟨K_1, 6, h, leaf_1⟩) (fun (h : K_2.ok _) => split_on c_1 h (fun (h : K_3.ok _) => ⟨K_3, 6, h, leaf_3⟩) (fun (h : K_4.ok _) => ⟨K_4, 6, h, leaf_4⟩))

def zeros : Env := ⟨fun _ => 0, fun _ => false, fun _ _ => 0, fun _ _ => true, fun _ => .bool false, fun _ => ⟨⟨0, 0, none⟩, .cells #[] 0 (0, 0)⟩⟩
set_option maxRecDepth 100000 in
theorem lifted5 (os : Os) (started : os.Started) (H : Type) (enc : TypeId × Value → H) :
    ReturnsInHanded {} Try.checked os 5 .any (Rows.pixelGreySpec.pre6 enc Try.prog Try.f5 Rows.pixelGreyRow.domain false) (Rows.pixelGreySpec.post enc Try.prog Try.f5 false true false false) := by
  refine returnsInHanded_of_change (C := Try.checked) own started (by kernel_rfl) Try.func5
    (ChangeSpec.witness6 (enc := enc) (C := Try.checked) false ⟨#[], (ss5.map (SV.den zeros fun _ => 0)).toArray, []⟩ 8 (by kernel_rfl) (by kernel_rfl) (by kernel_rfl) (by kernel_rfl)) ?_
  intro W base args ds gs before hval0 hW _ _
  have hval : ∀ (j : Nat) t v, Try.f5.params[j]? = some t → args[j]? = some v → Value.okWide Try.prog W .any base t v := hval0
  have hW' := hW
  obtain ⟨p, q, hA0, hV, rfl, _, _⟩ := hW
  have hA : DataW.TrodAll enc Try.prog W 0 (fun _ => true) true Try.f5.params.toList args.toList ds p := hA0
  obtain ⟨rfl, rfl⟩ := trodVars_none hV
  have hA1 := hA
  rw [Try.params5] at hA1
  obtain ⟨v0, v1, d0, d1, p0, p1, _, rfl, _, _, _⟩ := trodAll_two hA1
  refine (rows_plan (r := .any) (base := base) mixed sok9 args5 plan5 (fun j t v ht hv => hval j t v (by simpa using ht) hv) hA).mono fun e W' ⟨⟨v, he, hv⟩, hb⟩ => ?_
  subst hv
  subst he
  exact ⟨_, rfl, law_post (tb := 4) laid rfl (by rw [Try.params5]; intro t ht; simp at ht; first | (subst ht; exact ⟨by kernel_rfl, of_decide_eq_true (by kernel_rfl)⟩) | (rcases ht with rfl | rfl <;> exact ⟨by kernel_rfl, of_decide_eq_true (by kernel_rfl)⟩) | (rcases ht with rfl | rfl | rfl <;> exact ⟨by kernel_rfl, of_decide_eq_true (by kernel_rfl)⟩)) rfl Try.underlying4 hW' hA hb ⟨rfl, rfl, rfl⟩⟩

theorem pixelGrey_holds : Rows.PixelGreySaid :=
  OpenClaim.holds_of_wide 5 Try.f5 rfl rfl rfl rfl rfl rfl rfl ⟨rfl, rfl, rfl, rfl, rfl⟩ rfl rfl rfl rfl rfl (by kernel_rfl) Try.func5 (by kernel_rfl)
    (of_decide_eq_true (by kernel_rfl)) (by unfold Func.isWrapper; first | (rw [if_pos (by decide +kernel)]; kernel_rfl) | (rw [if_neg (by decide +kernel)]; exact ⟨rfl, rfl⟩))
    (fun os started H enc _ => lifted5 os started H enc)
#print axioms pixelGrey_holds
end Go.Proofs.Ytaabkgkhjmmleaa
