/- For every input PixelTells answers true. -/
import Derived.Test.YtaabkgkhjmmleaaRows
import Derived.Test.YtaabkgkhjmmleaaSx22
namespace Go.Proofs.Ytaabkgkhjmmleaa
open Go.ChangeShapes Go.WideShapes Go.ChangeAt Go.RowKit Go.Sx

theorem own : ownKnob Try.prog.godebug = none := by kernel_rfl
theorem laid : laidOutB Try.prog = true := by kernel_rfl
theorem mixed : Try.prog.follows .mixedOrders = true := by kernel_rfl

def x11_6 : X := .cmp .geq (.iv 1) (.lit (.ofNat 8))
def v11 : ST := .tup [.c (.cb (.and (.cmp .gtr (.bin .and .u8 (.iv 0) (.lit (.ofNat 8))) (.lit (.ofNat 0))) (.or x11_6 (.cmp .gtr (.bin .and .u8 (.iv 0) (.lit (.ofNat 2))) (.lit (.ofNat 0)))))), .c (.cb (.and (.cmp .gtr (.bin .and .u8 (.iv 0) (.lit (.ofNat 16))) (.lit (.ofNat 0))) (.or x11_6 (.cmp .gtr (.bin .and .u8 (.iv 0) (.lit (.ofNat 4))) (.lit (.ofNat 0))))))]
def ss11 : List SV := [.c (.ci .u8 (.iv 0)), .c (.ci .i64 (.iv 1))]
def ks11 : List LK := [.i .u8, .i .i64]
theorem args11 : argTs Try.prog Try.f11.params.toList 0 = some (ss11, ks11) := by kernel_rfl
theorem tree11 : tree Try.prog 12 (sumsIn []) 300 11 ss11 bare 0 ⟨ks11.map LK.rg, []⟩ = .leaf v11 := by kernel_rfl
def sums11 : List Sm := ⟨11, ss11, ks11, v11⟩ :: []
theorem sok11 : SumsOk Try.prog sums11 := sums_cons mixed sums_nil args11 tree11 (by kernel_rfl)
def x13_2 : X := .cmp .lss (.iv 1) (.lit (.ofNat 8))
def x13_9 : X := .cmp .eql (.bin .rem .i64 (.bin .shr .i64 (.iv 0) (.lit (.ofNat 3))) (.lit (.ofNat 2))) (.lit (.ofNat 1))
def x13_18 : X := .cmp .eql (.bin .rem .i64 (.bin .shr .i64 (.iv 0) (.lit (.ofNat 4))) (.lit (.ofNat 2))) (.lit (.ofNat 1))
def v13 : ST := .tup [.c (.cb (.ite x13_2 (.and x13_9 (.cmp .eql (.bin .rem .i64 (.bin .shr .i64 (.iv 0) (.lit (.ofNat 1))) (.lit (.ofNat 2))) (.lit (.ofNat 1)))) x13_9)), .c (.cb (.ite x13_2 (.and x13_18 (.cmp .eql (.bin .rem .i64 (.bin .shr .i64 (.iv 0) (.lit (.ofNat 2))) (.lit (.ofNat 2))) (.lit (.ofNat 1)))) x13_18))]
def ss13 : List SV := [.c (.ci .u8 (.iv 0)), .c (.ci .i64 (.iv 1))]
def ks13 : List LK := [.i .u8, .i .i64]
theorem args13 : argTs Try.prog Try.f13.params.toList 0 = some (ss13, ks13) := by kernel_rfl
theorem tree13 : tree Try.prog 12 (sumsIn sums11) 300 13 ss13 bare 0 ⟨ks13.map LK.rg, []⟩ = .leaf v13 := by kernel_rfl
def sums13 : List Sm := ⟨13, ss13, ks13, v13⟩ :: sums11
theorem sok13 : SumsOk Try.prog sums13 := sums_cons mixed sok11 args13 tree13 (by kernel_rfl)
def v21 : ST := .v (.agg [.ci .u8 (.iv 0), .cb (.bl false)])
def ss21 : List SV := [.c (.ci .u8 (.iv 0))]
def ks21 : List LK := [.i .u8]
theorem args21 : argTs Try.prog Try.f21.params.toList 0 = some (ss21, ks21) := by kernel_rfl
theorem tree21 : tree Try.prog 12 (sumsIn sums13) 300 21 ss21 bare 0 ⟨ks21.map LK.rg, []⟩ = .leaf v21 := by kernel_rfl
def sums21 : List Sm := ⟨21, ss21, ks21, v21⟩ :: sums13
theorem sok21 : SumsOk Try.prog sums21 := sums_cons mixed sok13 args21 tree21 (by kernel_rfl)
def v20 : ST := .v (.agg [.ci .u8 (.bin .and .u8 (.iv 0) (.iv 2)), .cb (.or (.bv 1) (.and (.not (.bv 1)) (.bv 3)))])
def ss20 : List SV := [.agg [.ci .u8 (.iv 0), .cb (.bv 1)], .agg [.ci .u8 (.iv 2), .cb (.bv 3)]]
def ks20 : List LK := [.i .u8, .b, .i .u8, .b]
theorem args20 : argTs Try.prog Try.f20.params.toList 0 = some (ss20, ks20) := by kernel_rfl
theorem tree20 : tree Try.prog 12 (sumsIn sums21) 300 20 ss20 bare 0 ⟨ks20.map LK.rg, []⟩ = .leaf v20 := by kernel_rfl
def sums20 : List Sm := ⟨20, ss20, ks20, v20⟩ :: sums21
theorem sok20 : SumsOk Try.prog sums20 := sums_cons mixed sok21 args20 tree20 (by kernel_rfl)
def v12 : ST := .v (.c (.cb (.cmp .gtr (.bin .and .u8 (.iv 0) (.lit (.ofNat 24))) (.lit (.ofNat 0)))))
def ss12 : List SV := [.c (.ci .u8 (.iv 0))]
def ks12 : List LK := [.i .u8]
theorem args12 : argTs Try.prog Try.f12.params.toList 0 = some (ss12, ks12) := by kernel_rfl
theorem tree12 : tree Try.prog 12 (sumsIn sums20) 300 12 ss12 bare 0 ⟨ks12.map LK.rg, []⟩ = .leaf v12 := by kernel_rfl
def sums12 : List Sm := ⟨12, ss12, ks12, v12⟩ :: sums20
theorem sok12 : SumsOk Try.prog sums12 := sums_cons mixed sok20 args12 tree12 (by kernel_rfl)
def v15 : ST := .v (.c (.cb (.or (.cmp .eql (.bin .rem .i64 (.bin .shr .i64 (.iv 0) (.lit (.ofNat 3))) (.lit (.ofNat 2))) (.lit (.ofNat 1))) (.cmp .eql (.bin .rem .i64 (.bin .shr .i64 (.iv 0) (.lit (.ofNat 4))) (.lit (.ofNat 2))) (.lit (.ofNat 1))))))
def ss15 : List SV := [.c (.ci .u8 (.iv 0))]
def ks15 : List LK := [.i .u8]
theorem args15 : argTs Try.prog Try.f15.params.toList 0 = some (ss15, ks15) := by kernel_rfl
theorem tree15 : tree Try.prog 12 (sumsIn sums12) 300 15 ss15 bare 0 ⟨ks15.map LK.rg, []⟩ = .leaf v15 := by kernel_rfl
def sums15 : List Sm := ⟨15, ss15, ks15, v15⟩ :: sums12
theorem sok15 : SumsOk Try.prog sums15 := sums_cons mixed sok12 args15 tree15 (by kernel_rfl)
def v19 : ST := .v (.c (.cb (.cmp .gtr (.bin .and .u8 (.iv 0) (.lit (.ofNat 3))) (.lit (.ofNat 0)))))
def ss19 : List SV := [.c (.ci .u8 (.iv 0))]
def ks19 : List LK := [.i .u8]
theorem args19 : argTs Try.prog Try.f19.params.toList 0 = some (ss19, ks19) := by kernel_rfl
theorem tree19 : tree Try.prog 12 (sumsIn sums15) 300 19 ss19 bare 0 ⟨ks19.map LK.rg, []⟩ = .leaf v19 := by kernel_rfl
def sums19 : List Sm := ⟨19, ss19, ks19, v19⟩ :: sums15
theorem sok19 : SumsOk Try.prog sums19 := sums_cons mixed sok15 args19 tree19 (by kernel_rfl)
def x8_7 : X := .cmp .gtr (.bin .and .u8 (.iv 0) (.lit (.ofNat 3))) (.lit (.ofNat 0))
def x8_11 : X := .and (.cmp .gtr (.bin .and .u8 (.iv 1) (.lit (.ofNat 3))) (.lit (.ofNat 0))) (.not (.and x8_7 (.bv 2)))
def v8 : ST := .v (.c (.ci .u8 (.ite (.or x8_11 x8_7) (.ite x8_11 (.bin .or .u8 (.bin .and .u8 (.iv 1) (.lit (.ofNat 15))) (.lit (.ofNat 16))) (.bin .and .u8 (.iv 0) (.lit (.ofNat 15)))) (.lit (.ofNat 0)))))
def ss8 : List SV := [.c (.ci .u8 (.iv 0)), .c (.ci .u8 (.iv 1)), .c (.cb (.bv 2))]
def ks8 : List LK := [.i .u8, .i .u8, .b]
theorem args8 : argTs Try.prog Try.f8.params.toList 0 = some (ss8, ks8) := by kernel_rfl
theorem tree8 : tree Try.prog 12 (sumsIn sums19) 300 8 ss8 bare 0 ⟨ks8.map LK.rg, []⟩ = .leaf v8 := by kernel_rfl
def sums8 : List Sm := ⟨8, ss8, ks8, v8⟩ :: sums19
theorem sok8 : SumsOk Try.prog sums8 := sums_cons mixed sok19 args8 tree8 (by kernel_rfl)
def x16_4 : X := .cmp .neq (.bin .rem .u8 (.iv 0) (.lit (.ofNat 4))) (.lit (.ofNat 0))
def x16_9 : X := .not (.cmp .neq (.bin .rem .u8 (.iv 1) (.lit (.ofNat 4))) (.lit (.ofNat 0)))
def v16 : ST := .v (.c (.ci .u8 (.ite (.and (.not x16_4) x16_9) (.lit (.ofNat 0)) (.ite (.and x16_4 (.or x16_9 (.bv 2))) (.bin .rem .u8 (.iv 0) (.lit (.ofNat 16))) (.bin .add .u8 (.lit (.ofNat 16)) (.bin .rem .u8 (.iv 1) (.lit (.ofNat 16))))))))
def ss16 : List SV := [.c (.ci .u8 (.iv 0)), .c (.ci .u8 (.iv 1)), .c (.cb (.bv 2))]
def ks16 : List LK := [.i .u8, .i .u8, .b]
theorem args16 : argTs Try.prog Try.f16.params.toList 0 = some (ss16, ks16) := by kernel_rfl
theorem tree16 : tree Try.prog 12 (sumsIn sums8) 300 16 ss16 bare 0 ⟨ks16.map LK.rg, []⟩ = .leaf v16 := by kernel_rfl
def sums16 : List Sm := ⟨16, ss16, ks16, v16⟩ :: sums8
theorem sok16 : SumsOk Try.prog sums16 := sums_cons mixed sok8 args16 tree16 (by kernel_rfl)
def v17 : ST := .v (.c (.cb (.and (.and (.cmp .gtr (.bin .and .u8 (.iv 0) (.lit (.ofNat 3))) (.lit (.ofNat 0))) (.cmp .gtr (.bin .and .u8 (.iv 1) (.lit (.ofNat 3))) (.lit (.ofNat 0)))) (.cmp .neq (.iv 2) (.lit (.ofNat 255))))))
def ss17 : List SV := [.c (.ci .u8 (.iv 0)), .c (.ci .u8 (.iv 1)), .c (.ci .i64 (.iv 2))]
def ks17 : List LK := [.i .u8, .i .u8, .i .i64]
theorem args17 : argTs Try.prog Try.f17.params.toList 0 = some (ss17, ks17) := by kernel_rfl
theorem tree17 : tree Try.prog 12 (sumsIn sums16) 300 17 ss17 bare 0 ⟨ks17.map LK.rg, []⟩ = .leaf v17 := by kernel_rfl
def sums17 : List Sm := ⟨17, ss17, ks17, v17⟩ :: sums16
theorem sok17 : SumsOk Try.prog sums17 := sums_cons mixed sok16 args17 tree17 (by kernel_rfl)
def v18 : ST := .v (.c (.cb (.and (.and (.cmp .neq (.bin .rem .u8 (.iv 0) (.lit (.ofNat 4))) (.lit (.ofNat 0))) (.cmp .neq (.bin .rem .u8 (.iv 1) (.lit (.ofNat 4))) (.lit (.ofNat 0)))) (.cmp .neq (.iv 2) (.lit (.ofNat 255))))))
def ss18 : List SV := [.c (.ci .u8 (.iv 0)), .c (.ci .u8 (.iv 1)), .c (.ci .i64 (.iv 2))]
def ks18 : List LK := [.i .u8, .i .u8, .i .i64]
theorem args18 : argTs Try.prog Try.f18.params.toList 0 = some (ss18, ks18) := by kernel_rfl
theorem tree18 : tree Try.prog 12 (sumsIn sums17) 300 18 ss18 bare 0 ⟨ks18.map LK.rg, []⟩ = .leaf v18 := by kernel_rfl
def sums18 : List Sm := ⟨18, ss18, ks18, v18⟩ :: sums17
theorem sok18 : SumsOk Try.prog sums18 := sums_cons mixed sok17 args18 tree18 (by kernel_rfl)
def v9 : ST := .v (.c (.cb (.bl true)))
def ss9 : List SV := []
def ks9 : List LK := []
theorem args9 : argTs Try.prog Try.f9.params.toList 0 = some (ss9, ks9) := by kernel_rfl
theorem tree9 : tree Try.prog 12 (sumsIn sums18) 300 9 ss9 bare 0 ⟨ks9.map LK.rg, []⟩ = .leaf v9 := by kernel_rfl
def sums9 : List Sm := ⟨9, ss9, ks9, v9⟩ :: sums18
theorem sok9 : SumsOk Try.prog sums9 := sums_cons mixed sok18 args9 tree9 (by kernel_rfl)
def ss7 : List SV := [.agg [.ci .u8 (.iv 0), .ci .u8 (.iv 1), .ci .u8 (.iv 2), .ci .u8 (.iv 3), .ci .i64 (.iv 4), .cb (.bv 5), .cb (.bv 6)], .c (.xs 9536 (.lit 0) (.iv 7) (.iv 8))]
def ks7 : List LK := [.i .u8, .i .u8, .i .u8, .i .u8, .i .i64, .b, .b, .i .i64, .i .i64]
def rs7 : List RowV := [(9536, 7)]
theorem args7 : argRs Try.prog Try.f7.params.toList 0 0 = some (ss7, ks7, rs7) := by kernel_rfl
def T (K : Known) : Prop := (tree Try.prog 0 (sumsIn sums9) 300 7 ss7 bare 6 K).prove 300 1000 K = true
def V (K : Known) : Prop := X.prove 20 60 K (.bl false) = true
def c_0 : X := .cmp .gtr (.iv 7) (.lit (.ofNat 33))
def c_1 : X := .cmp .leq (.lit (.ofNat 33)) (.iv 8)
def c_2 : X := .cmp .neq (.iv 7) (.lit (.ofNat 32))
def c_3 : X := .cmp .geq (.iv 3) (.iv 7)
def K_0 : Known := addRows rs7 ⟨ks7.map LK.rg, []⟩
def K_1 : Known := K_0.assume c_0 true
def K_2 : Known := K_1.assume c_1 true
def K_3 : Known := K_0.assume c_0 false
def K_4 : Known := K_3.assume c_2 true
def K_5 : Known := K_3.assume c_2 false
def K_6 : Known := K_5.assume c_3 true
def K_7 : Known := K_5.assume c_3 false
theorem leaf_2 : T K_2 := by unfold T; kernel_rfl
theorem leaf_4 : T K_4 := by unfold T; kernel_rfl
theorem leaf_6 : T K_6 := by unfold T; kernel_rfl
theorem leaf_7 : T K_7 := by unfold T; kernel_rfl
theorem know_1 : X.proveE 300 1000 K_1 c_1 = true := by kernel_rfl
theorem plan7 : ∀ ρ, (addRows rs7 ⟨ks7.map LK.rg, []⟩).ok ρ → ∃ K d, K.ok ρ ∧ (tree Try.prog 0 (sumsIn sums9) 300 7 ss7 bare d K).prove 300 1000 K = true := fun _ h => split_on c_0 h (fun (h : K_1.ok _) => split_know c_1 h know_1 (fun (h : K_2.ok _) => ⟨K_2, 6, h, leaf_2⟩)) (fun (h : K_3.ok _) => split_on c_2 h (fun (h : K_4.ok _) => ⟨K_4, 6, h, leaf_4⟩) (fun (h : K_5.ok _) => split_on c_3 h (fun (h : K_6.ok _) => ⟨K_6, 6, h, leaf_6⟩) (fun (h : K_7.ok _) => ⟨K_7, 6, h, leaf_7⟩)))

def zeros : Env := ⟨fun _ => 0, fun _ => false, fun _ _ => 0, fun _ _ => true, fun _ => .bool false, fun _ => ⟨⟨0, 0, none⟩, .cells #[] 0 (0, 0)⟩⟩
set_option maxRecDepth 100000 in
theorem lifted7 (os : Os) (started : os.Started) (H : Type) (enc : TypeId × Value → H) :
    ReturnsInHanded {} Try.checked os 7 .any (Rows.pixelTellsSpec.pre6 enc Try.prog Try.f7 Rows.pixelTellsRow.domain false) (Rows.pixelTellsSpec.post enc Try.prog Try.f7 false true false false) := by
  refine returnsInHanded_of_change (C := Try.checked) own started (by kernel_rfl) Try.func7
    (ChangeSpec.witness6 (enc := enc) (C := Try.checked) false ⟨#[], (ss7.map (SV.den zeros fun _ => 0)).toArray, []⟩ 8 (by kernel_rfl) (by kernel_rfl) (by kernel_rfl) (by kernel_rfl)) ?_
  intro W base args ds gs before hval0 hW _ _
  have hval : ∀ (j : Nat) t v, Try.f7.params[j]? = some t → args[j]? = some v → Value.okWide Try.prog W .any base t v := hval0
  have hW' := hW
  obtain ⟨p, q, hA0, hV, rfl, _, _⟩ := hW
  have hA : DataW.TrodAll enc Try.prog W 0 (fun _ => true) true Try.f7.params.toList args.toList ds p := hA0
  obtain ⟨rfl, rfl⟩ := trodVars_none hV
  have hA1 := hA
  rw [Try.params7] at hA1
  obtain ⟨v0, v1, d0, d1, p0, p1, _, rfl, _, _, _⟩ := trodAll_two hA1
  refine (rows_plan (r := .any) (base := base) mixed sok9 args7 plan7 (fun j t v ht hv => hval j t v (by simpa using ht) hv) hA).mono fun e W' ⟨⟨v, he, hv⟩, hb⟩ => ?_
  subst hv
  subst he
  exact ⟨_, rfl, law_post (tb := 4) laid rfl (by rw [Try.params7]; intro t ht; simp at ht; first | (subst ht; exact ⟨by kernel_rfl, of_decide_eq_true (by kernel_rfl)⟩) | (rcases ht with rfl | rfl <;> exact ⟨by kernel_rfl, of_decide_eq_true (by kernel_rfl)⟩) | (rcases ht with rfl | rfl | rfl <;> exact ⟨by kernel_rfl, of_decide_eq_true (by kernel_rfl)⟩)) rfl Try.underlying4 hW' hA hb ⟨rfl, rfl, rfl⟩⟩

theorem pixelTells_holds : Rows.PixelTellsSaid :=
  OpenClaim.holds_of_wide 7 Try.f7 rfl rfl rfl rfl rfl rfl rfl ⟨rfl, rfl, rfl, rfl, rfl⟩ rfl rfl rfl rfl rfl (by kernel_rfl) Try.func7 (by kernel_rfl)
    (of_decide_eq_true (by kernel_rfl)) (by unfold Func.isWrapper; first | (rw [if_pos (by decide +kernel)]; kernel_rfl) | (rw [if_neg (by decide +kernel)]; exact ⟨rfl, rfl⟩))
    (fun os started H enc _ => lifted7 os started H enc)
#print axioms pixelTells_holds
end Go.Proofs.Ytaabkgkhjmmleaa
