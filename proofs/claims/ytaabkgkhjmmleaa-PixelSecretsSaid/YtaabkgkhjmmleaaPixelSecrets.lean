/- For every input PixelSecrets answers true. -/
import Derived.Test.YtaabkgkhjmmleaaRows
import Derived.Test.YtaabkgkhjmmleaaSx24
namespace Go.Proofs.Ytaabkgkhjmmleaa
open Go.ChangeShapes Go.WideShapes Go.ChangeAt Go.RowKit Go.Sx

theorem own : ownKnob Try.prog.godebug = none := by kernel_rfl
theorem laid : laidOutB Try.prog = true := by kernel_rfl
theorem mixed : Try.prog.follows .mixedOrders = true := by kernel_rfl

def x11_6 : X := .cmp .geq (.iv 1) (.lit (.ofNat 8))
def v11 : ST := .tup [.c (.cb (.and (.cmp .gtr (.bin .and .u8 (.iv 0) (.lit (.ofNat 8))) (.lit (.ofNat 0))) (.or x11_6 (.cmp .gtr (.bin .and .u8 (.iv 0) (.lit (.ofNat 2))) (.lit (.ofNat 0)))))), .c (.cb (.and (.cmp .gtr (.bin .and .u8 (.iv 0) (.lit (.ofNat 16))) (.lit (.ofNat 0))) (.or x11_6 (.cmp .gtr (.bin .and .u8 (.iv 0) (.lit (.ofNat 4))) (.lit (.ofNat 0))))))]
def ss11 : List SV := [.c (.ci .u8 (.iv 0)), .c (.ci .i64 (.iv 1))]
def ks11 : List LK := [.i .u8, .i .i64]
theorem args11 : argTs Try.prog Try.f11.params.toList 0 = some (ss11, ks11) := by kernel_rfl
theorem tree11 : tree Try.prog 12 (sumsIn []) 300 11 ss11 bare 0 ⟨ks11.map LK.rg, []⟩ = .leaf v11 := by kernel_rfl
def sums11 : List Sm := ⟨11, ss11, ks11, v11⟩ :: []
theorem sok11 : SumsOk Try.prog sums11 := sums_cons mixed sums_nil args11 tree11 (by kernel_rfl)
def v21 : ST := .v (.agg [.ci .u8 (.iv 0), .cb (.bl false)])
def ss21 : List SV := [.c (.ci .u8 (.iv 0))]
def ks21 : List LK := [.i .u8]
theorem args21 : argTs Try.prog Try.f21.params.toList 0 = some (ss21, ks21) := by kernel_rfl
theorem tree21 : tree Try.prog 12 (sumsIn sums11) 300 21 ss21 bare 0 ⟨ks21.map LK.rg, []⟩ = .leaf v21 := by kernel_rfl
def sums21 : List Sm := ⟨21, ss21, ks21, v21⟩ :: sums11
theorem sok21 : SumsOk Try.prog sums21 := sums_cons mixed sok11 args21 tree21 (by kernel_rfl)
def v20 : ST := .v (.agg [.ci .u8 (.bin .and .u8 (.iv 0) (.iv 2)), .cb (.or (.bv 1) (.and (.not (.bv 1)) (.bv 3)))])
def ss20 : List SV := [.agg [.ci .u8 (.iv 0), .cb (.bv 1)], .agg [.ci .u8 (.iv 2), .cb (.bv 3)]]
def ks20 : List LK := [.i .u8, .b, .i .u8, .b]
theorem args20 : argTs Try.prog Try.f20.params.toList 0 = some (ss20, ks20) := by kernel_rfl
theorem tree20 : tree Try.prog 12 (sumsIn sums21) 300 20 ss20 bare 0 ⟨ks20.map LK.rg, []⟩ = .leaf v20 := by kernel_rfl
def sums20 : List Sm := ⟨20, ss20, ks20, v20⟩ :: sums21
theorem sok20 : SumsOk Try.prog sums20 := sums_cons mixed sok21 args20 tree20 (by kernel_rfl)
def v19 : ST := .v (.c (.cb (.cmp .gtr (.bin .and .u8 (.iv 0) (.lit (.ofNat 3))) (.lit (.ofNat 0)))))
def ss19 : List SV := [.c (.ci .u8 (.iv 0))]
def ks19 : List LK := [.i .u8]
theorem args19 : argTs Try.prog Try.f19.params.toList 0 = some (ss19, ks19) := by kernel_rfl
theorem tree19 : tree Try.prog 12 (sumsIn sums20) 300 19 ss19 bare 0 ⟨ks19.map LK.rg, []⟩ = .leaf v19 := by kernel_rfl
def sums19 : List Sm := ⟨19, ss19, ks19, v19⟩ :: sums20
theorem sok19 : SumsOk Try.prog sums19 := sums_cons mixed sok20 args19 tree19 (by kernel_rfl)
def x8_7 : X := .cmp .gtr (.bin .and .u8 (.iv 0) (.lit (.ofNat 3))) (.lit (.ofNat 0))
def x8_11 : X := .and (.cmp .gtr (.bin .and .u8 (.iv 1) (.lit (.ofNat 3))) (.lit (.ofNat 0))) (.not (.and x8_7 (.bv 2)))
def v8 : ST := .v (.c (.ci .u8 (.ite (.or x8_11 x8_7) (.ite x8_11 (.bin .or .u8 (.bin .and .u8 (.iv 1) (.lit (.ofNat 15))) (.lit (.ofNat 16))) (.bin .and .u8 (.iv 0) (.lit (.ofNat 15)))) (.lit (.ofNat 0)))))
def ss8 : List SV := [.c (.ci .u8 (.iv 0)), .c (.ci .u8 (.iv 1)), .c (.cb (.bv 2))]
def ks8 : List LK := [.i .u8, .i .u8, .b]
theorem args8 : argTs Try.prog Try.f8.params.toList 0 = some (ss8, ks8) := by kernel_rfl
theorem tree8 : tree Try.prog 12 (sumsIn sums19) 300 8 ss8 bare 0 ⟨ks8.map LK.rg, []⟩ = .leaf v8 := by kernel_rfl
def sums8 : List Sm := ⟨8, ss8, ks8, v8⟩ :: sums19
theorem sok8 : SumsOk Try.prog sums8 := sums_cons mixed sok19 args8 tree8 (by kernel_rfl)
def v9 : ST := .v (.c (.cb (.bl true)))
def ss9 : List SV := []
def ks9 : List LK := []
theorem args9 : argTs Try.prog Try.f9.params.toList 0 = some (ss9, ks9) := by kernel_rfl
theorem tree9 : tree Try.prog 12 (sumsIn sums8) 300 9 ss9 bare 0 ⟨ks9.map LK.rg, []⟩ = .leaf v9 := by kernel_rfl
def sums9 : List Sm := ⟨9, ss9, ks9, v9⟩ :: sums8
theorem sok9 : SumsOk Try.prog sums9 := sums_cons mixed sok8 args9 tree9 (by kernel_rfl)
def ss4 : List SV := [.agg [.ci .u8 (.iv 0), .ci .u8 (.iv 1), .ci .u8 (.iv 2), .ci .u8 (.iv 3), .ci .i64 (.iv 4), .cb (.bv 5), .cb (.bv 6)], .c (.xs 9536 (.lit 0) (.iv 7) (.iv 8)), .c (.ci .u8 (.iv 9))]
def ks4 : List LK := [.i .u8, .i .u8, .i .u8, .i .u8, .i .i64, .b, .b, .i .i64, .i .i64, .i .u8]
def rs4 : List RowV := [(9536, 7)]
theorem args4 : argRs Try.prog Try.f4.params.toList 0 0 = some (ss4, ks4, rs4) := by kernel_rfl
def T (K : Known) : Prop := (treeS Try.prog 0 (sumsIn sums9) 300 4 ss4 bare 6 K).prove 300 1000 K = true
def V (K : Known) : Prop := X.prove 20 60 K (.bl false) = true
def c_0 : X := .cmp .neq (.iv 7) (.lit (.ofNat 32))
def c_1 : X := .cmp .eql (.iv 7) (.lit (.ofNat 32))
def c_2 : X := .cmp .gtr (.iv 3) (.lit (.ofNat 31))
def c_3 : X := .cmp .eql (.iv 3) (.lit (.ofNat 0))
def c_4 : X := .cmp .eql (.iv 3) (.lit (.ofNat 1))
def c_5 : X := .cmp .eql (.iv 3) (.lit (.ofNat 2))
def c_6 : X := .cmp .eql (.iv 3) (.lit (.ofNat 3))
def c_7 : X := .cmp .eql (.iv 3) (.lit (.ofNat 4))
def c_8 : X := .cmp .eql (.iv 3) (.lit (.ofNat 5))
def c_9 : X := .cmp .eql (.iv 3) (.lit (.ofNat 6))
def c_10 : X := .cmp .eql (.iv 3) (.lit (.ofNat 7))
def c_11 : X := .cmp .eql (.iv 3) (.lit (.ofNat 8))
def c_12 : X := .cmp .eql (.iv 3) (.lit (.ofNat 9))
def c_13 : X := .cmp .eql (.iv 3) (.lit (.ofNat 10))
def c_14 : X := .cmp .eql (.iv 3) (.lit (.ofNat 11))
def c_15 : X := .cmp .eql (.iv 3) (.lit (.ofNat 12))
def c_16 : X := .cmp .eql (.iv 3) (.lit (.ofNat 13))
def c_17 : X := .cmp .eql (.iv 3) (.lit (.ofNat 14))
def c_18 : X := .cmp .eql (.iv 3) (.lit (.ofNat 15))
def c_19 : X := .cmp .eql (.iv 3) (.lit (.ofNat 16))
def c_20 : X := .cmp .eql (.iv 3) (.lit (.ofNat 17))
def c_21 : X := .cmp .eql (.iv 3) (.lit (.ofNat 18))
def c_22 : X := .cmp .eql (.iv 3) (.lit (.ofNat 19))
def c_23 : X := .cmp .eql (.iv 3) (.lit (.ofNat 20))
def c_24 : X := .cmp .eql (.iv 3) (.lit (.ofNat 21))
def c_25 : X := .cmp .eql (.iv 3) (.lit (.ofNat 22))
def c_26 : X := .cmp .eql (.iv 3) (.lit (.ofNat 23))
def c_27 : X := .cmp .eql (.iv 3) (.lit (.ofNat 24))
def c_28 : X := .cmp .eql (.iv 3) (.lit (.ofNat 25))
def c_29 : X := .cmp .eql (.iv 3) (.lit (.ofNat 26))
def c_30 : X := .cmp .eql (.iv 3) (.lit (.ofNat 27))
def c_31 : X := .cmp .eql (.iv 3) (.lit (.ofNat 28))
def c_32 : X := .cmp .eql (.iv 3) (.lit (.ofNat 29))
def c_33 : X := .cmp .eql (.iv 3) (.lit (.ofNat 30))
def c_34 : X := .cmp .eql (.iv 3) (.lit (.ofNat 31))
def K_0 : Known := addRows rs4 ⟨ks4.map LK.rg, []⟩
def K_1 : Known := K_0.assume c_0 true
def K_2 : Known := K_0.assume c_0 false
def K_3 : Known := K_2.assume c_1 true
def K_4 : Known := K_3.assume c_2 true
def K_5 : Known := K_3.assume c_2 false
def K_6 : Known := K_5.assume c_3 true
def K_7 : Known := K_5.assume c_3 false
def K_8 : Known := K_7.assume c_4 true
def K_9 : Known := K_7.assume c_4 false
def K_10 : Known := K_9.assume c_5 true
def K_11 : Known := K_9.assume c_5 false
def K_12 : Known := K_11.assume c_6 true
def K_13 : Known := K_11.assume c_6 false
def K_14 : Known := K_13.assume c_7 true
def K_15 : Known := K_13.assume c_7 false
def K_16 : Known := K_15.assume c_8 true
def K_17 : Known := K_15.assume c_8 false
def K_18 : Known := K_17.assume c_9 true
def K_19 : Known := K_17.assume c_9 false
def K_20 : Known := K_19.assume c_10 true
def K_21 : Known := K_19.assume c_10 false
def K_22 : Known := K_21.assume c_11 true
def K_23 : Known := K_21.assume c_11 false
def K_24 : Known := K_23.assume c_12 true
def K_25 : Known := K_23.assume c_12 false
def K_26 : Known := K_25.assume c_13 true
def K_27 : Known := K_25.assume c_13 false
def K_28 : Known := K_27.assume c_14 true
def K_29 : Known := K_27.assume c_14 false
def K_30 : Known := K_29.assume c_15 true
def K_31 : Known := K_29.assume c_15 false
def K_32 : Known := K_31.assume c_16 true
def K_33 : Known := K_31.assume c_16 false
def K_34 : Known := K_33.assume c_17 true
def K_35 : Known := K_33.assume c_17 false
def K_36 : Known := K_35.assume c_18 true
def K_37 : Known := K_35.assume c_18 false
def K_38 : Known := K_37.assume c_19 true
def K_39 : Known := K_37.assume c_19 false
def K_40 : Known := K_39.assume c_20 true
def K_41 : Known := K_39.assume c_20 false
def K_42 : Known := K_41.assume c_21 true
def K_43 : Known := K_41.assume c_21 false
def K_44 : Known := K_43.assume c_22 true
def K_45 : Known := K_43.assume c_22 false
def K_46 : Known := K_45.assume c_23 true
def K_47 : Known := K_45.assume c_23 false
def K_48 : Known := K_47.assume c_24 true
def K_49 : Known := K_47.assume c_24 false
def K_50 : Known := K_49.assume c_25 true
def K_51 : Known := K_49.assume c_25 false
def K_52 : Known := K_51.assume c_26 true
def K_53 : Known := K_51.assume c_26 false
def K_54 : Known := K_53.assume c_27 true
def K_55 : Known := K_53.assume c_27 false
def K_56 : Known := K_55.assume c_28 true
def K_57 : Known := K_55.assume c_28 false
def K_58 : Known := K_57.assume c_29 true
def K_59 : Known := K_57.assume c_29 false
def K_60 : Known := K_59.assume c_30 true
def K_61 : Known := K_59.assume c_30 false
def K_62 : Known := K_61.assume c_31 true
def K_63 : Known := K_61.assume c_31 false
def K_64 : Known := K_63.assume c_32 true
def K_65 : Known := K_63.assume c_32 false
def K_66 : Known := K_65.assume c_33 true
def K_67 : Known := K_65.assume c_33 false
def K_68 : Known := K_67.assume c_34 true
theorem leaf_1 : T K_1 := by unfold T; kernel_rfl
theorem leaf_4 : T K_4 := by unfold T; kernel_rfl
theorem leaf_6 : T K_6 := by unfold T; kernel_rfl
theorem leaf_8 : T K_8 := by unfold T; kernel_rfl
theorem leaf_10 : T K_10 := by unfold T; kernel_rfl
theorem leaf_12 : T K_12 := by unfold T; kernel_rfl
theorem leaf_14 : T K_14 := by unfold T; kernel_rfl
theorem leaf_16 : T K_16 := by unfold T; kernel_rfl
theorem leaf_18 : T K_18 := by unfold T; kernel_rfl
theorem leaf_20 : T K_20 := by unfold T; kernel_rfl
theorem leaf_22 : T K_22 := by unfold T; kernel_rfl
theorem leaf_24 : T K_24 := by unfold T; kernel_rfl
theorem leaf_26 : T K_26 := by unfold T; kernel_rfl
theorem leaf_28 : T K_28 := by unfold T; kernel_rfl
theorem leaf_30 : T K_30 := by unfold T; kernel_rfl
theorem leaf_32 : T K_32 := by unfold T; kernel_rfl
theorem leaf_34 : T K_34 := by unfold T; kernel_rfl
theorem leaf_36 : T K_36 := by unfold T; kernel_rfl
theorem leaf_38 : T K_38 := by unfold T; kernel_rfl
theorem leaf_40 : T K_40 := by unfold T; kernel_rfl
theorem leaf_42 : T K_42 := by unfold T; kernel_rfl
theorem leaf_44 : T K_44 := by unfold T; kernel_rfl
theorem leaf_46 : T K_46 := by unfold T; kernel_rfl
theorem leaf_48 : T K_48 := by unfold T; kernel_rfl
theorem leaf_50 : T K_50 := by unfold T; kernel_rfl
theorem leaf_52 : T K_52 := by unfold T; kernel_rfl
theorem leaf_54 : T K_54 := by unfold T; kernel_rfl
theorem leaf_56 : T K_56 := by unfold T; kernel_rfl
theorem leaf_58 : T K_58 := by unfold T; kernel_rfl
theorem leaf_60 : T K_60 := by unfold T; kernel_rfl
theorem leaf_62 : T K_62 := by unfold T; kernel_rfl
theorem leaf_64 : T K_64 := by unfold T; kernel_rfl
theorem leaf_66 : T K_66 := by unfold T; kernel_rfl
theorem leaf_68 : T K_68 := by unfold T; kernel_rfl
theorem know_2 : X.proveE 300 1000 K_2 c_1 = true := by kernel_rfl
theorem know_67 : X.proveE 300 1000 K_67 c_34 = true := by kernel_rfl
theorem plan4 : ∀ ρ, (addRows rs4 ⟨ks4.map LK.rg, []⟩).ok ρ → ∃ K d, K.ok ρ ∧ (treeS Try.prog 0 (sumsIn sums9) 300 4 ss4 bare d K).prove 300 1000 K = true := fun _ h => split_on c_0 h (fun (h : K_1.ok _) => ⟨K_1, 6, h, leaf_1⟩) (fun (h : K_2.ok _) => split_know c_1 h know_2 (fun (h : K_3.ok _) => split_on c_2 h (fun (h : K_4.ok _) => ⟨K_4, 6, h, leaf_4⟩) (fun (h : K_5.ok _) => split_on c_3 h (fun (h : K_6.ok _) => ⟨K_6, 6, h, leaf_6⟩) (fun (h : K_7.ok _) => split_on c_4 h (fun (h : K_8.ok _) => ⟨K_8, 6, h, leaf_8⟩) (fun (h : K_9.ok _) => split_on c_5 h (fun (h : K_10.ok _) => ⟨K_10, 6, h, leaf_10⟩) (fun (h : K_11.ok _) => split_on c_6 h (fun (h : K_12.ok _) => ⟨K_12, 6, h, leaf_12⟩) (fun (h : K_13.ok _) => split_on c_7 h (fun (h : K_14.ok _) => ⟨K_14, 6, h, leaf_14⟩) (fun (h : K_15.ok _) => split_on c_8 h (fun (h : K_16.ok _) => ⟨K_16, 6, h, leaf_16⟩) (fun (h : K_17.ok _) => split_on c_9 h (fun (h : K_18.ok _) => ⟨K_18, 6, h, leaf_18⟩) (fun (h : K_19.ok _) => split_on c_10 h (fun (h : K_20.ok _) => ⟨K_20, 6, h, leaf_20⟩) (fun (h : K_21.ok _) => split_on c_11 h (fun (h : K_22.ok _) => ⟨K_22, 6, h, leaf_22⟩) (fun (h : K_23.ok _) => split_on c_12 h (fun (h : K_24.ok _) => ⟨K_24, 6, h, leaf_24⟩) (fun (h : K_25.ok _) => split_on c_13 h (fun (h : K_26.ok _) => ⟨K_26, 6, h, leaf_26⟩) (fun (h : K_27.ok _) => split_on c_14 h (fun (h : K_28.ok _) => ⟨K_28, 6, h, leaf_28⟩) (fun (h : K_29.ok _) => split_on c_15 h (fun (h : K_30.ok _) => ⟨K_30, 6, h, leaf_30⟩) (fun (h : K_31.ok _) => split_on c_16 h (fun (h : K_32.ok _) => ⟨K_32, 6, h, leaf_32⟩) (fun (h : K_33.ok _) => split_on c_17 h (fun (h : K_34.ok _) => ⟨K_34, 6, h, leaf_34⟩) (fun (h : K_35.ok _) => split_on c_18 h (fun (h : K_36.ok _) => ⟨K_36, 6, h, leaf_36⟩) (fun (h : K_37.ok _) => split_on c_19 h (fun (h : K_38.ok _) => ⟨K_38, 6, h, leaf_38⟩) (fun (h : K_39.ok _) => split_on c_20 h (fun (h : K_40.ok _) => ⟨K_40, 6, h, leaf_40⟩) (fun (h : K_41.ok _) => split_on c_21 h (fun (h : K_42.ok _) => ⟨K_42, 6, h, leaf_42⟩) (fun (h : K_43.ok _) => split_on c_22 h (fun (h : K_44.ok _) => ⟨K_44, 6, h, leaf_44⟩) (fun (h : K_45.ok _) => split_on c_23 h (fun (h : K_46.ok _) => ⟨K_46, 6, h, leaf_46⟩) (fun (h : K_47.ok _) => split_on c_24 h (fun (h : K_48.ok _) => ⟨K_48, 6, h, leaf_48⟩) (fun (h : K_49.ok _) => split_on c_25 h (fun (h : K_50.ok _) => ⟨K_50, 6, h, leaf_50⟩) (fun (h : K_51.ok _) => split_on c_26 h (fun (h : K_52.ok _) => ⟨K_52, 6, h, leaf_52⟩) (fun (h : K_53.ok _) => split_on c_27 h (fun (h : K_54.ok _) => ⟨K_54, 6, h, leaf_54⟩) (fun (h : K_55.ok _) => split_on c_28 h (fun (h : K_56.ok _) => ⟨K_56, 6, h, leaf_56⟩) (fun (h : K_57.ok _) => split_on c_29 h (fun (h : K_58.ok _) => ⟨K_58, 6, h, leaf_58⟩) (fun (h : K_59.ok _) => split_on c_30 h (fun (h : K_60.ok _) => ⟨K_60, 6, h, leaf_60⟩) (fun (h : K_61.ok _) => split_on c_31 h (fun (h : K_62.ok _) => ⟨K_62, 6, h, leaf_62⟩) (fun (h : K_63.ok _) => split_on c_32 h (fun (h : K_64.ok _) => ⟨K_64, 6, h, leaf_64⟩) (fun (h : K_65.ok _) => split_on c_33 h (fun (h : K_66.ok _) => ⟨K_66, 6, h, leaf_66⟩) (fun (h : K_67.ok _) => split_know c_34 h know_67 (fun (h : K_68.ok _) => ⟨K_68, 6, h, leaf_68⟩)))))))))))))))))))))))))))))))))))

def zeros : Env := ⟨fun _ => 0, fun _ => false, fun _ _ => 0, fun _ _ => true, fun _ => .bool false, fun _ => ⟨⟨0, 0, none⟩, .cells #[] 0 (0, 0)⟩⟩
set_option maxRecDepth 100000 in
theorem lifted4 (os : Os) (started : os.Started) (H : Type) (enc : TypeId × Value → H) :
    ReturnsInHanded {} Try.checked os 4 .any (Rows.pixelSecretsSpec.pre6 enc Try.prog Try.f4 Rows.pixelSecretsRow.domain false) (Rows.pixelSecretsSpec.post enc Try.prog Try.f4 false true false false) := by
  refine returnsInHanded_of_change (C := Try.checked) own started (by kernel_rfl) Try.func4
    (ChangeSpec.witness6 (enc := enc) (C := Try.checked) false ⟨#[], (ss4.map (SV.den zeros fun _ => 0)).toArray, []⟩ 8 (by kernel_rfl) (by kernel_rfl) (by kernel_rfl) (by kernel_rfl)) ?_
  intro W base args ds gs before hval0 hW _ _
  have hval : ∀ (j : Nat) t v, Try.f4.params[j]? = some t → args[j]? = some v → Value.okWide Try.prog W .any base t v := hval0
  have hW' := hW
  obtain ⟨p, q, hA0, hV, rfl, _, _⟩ := hW
  have hA : DataW.TrodAll enc Try.prog W 0 (fun _ => true) true Try.f4.params.toList args.toList ds p := hA0
  obtain ⟨rfl, rfl⟩ := trodVars_none hV
  have hA1 := hA
  rw [Try.params4] at hA1
  obtain ⟨v0, v1, v2, d0, d1, d2, p0, p1, p2, _, rfl, _, _, _, _⟩ := trodAll_three hA1
  refine (rows_planS (r := .any) (base := base) mixed sok9 args4 plan4 (fun j t v ht hv => hval j t v (by simpa using ht) hv) hA).mono fun e W' ⟨⟨v, he, hv⟩, hb⟩ => ?_
  subst hv
  subst he
  exact ⟨_, rfl, law_post (tb := 4) laid rfl (by rw [Try.params4]; intro t ht; simp at ht; first | (subst ht; exact ⟨by kernel_rfl, of_decide_eq_true (by kernel_rfl)⟩) | (rcases ht with rfl | rfl <;> exact ⟨by kernel_rfl, of_decide_eq_true (by kernel_rfl)⟩) | (rcases ht with rfl | rfl | rfl <;> exact ⟨by kernel_rfl, of_decide_eq_true (by kernel_rfl)⟩)) rfl Try.underlying4 hW' hA hb ⟨rfl, rfl, rfl⟩⟩

theorem pixelSecrets_holds : Rows.PixelSecretsSaid :=
  OpenClaim.holds_of_wide 4 Try.f4 rfl rfl rfl rfl rfl rfl rfl ⟨rfl, rfl, rfl, rfl, rfl⟩ rfl rfl rfl rfl rfl (by kernel_rfl) Try.func4 (by kernel_rfl)
    (of_decide_eq_true (by kernel_rfl)) (by unfold Func.isWrapper; first | (rw [if_pos (by decide +kernel)]; kernel_rfl) | (rw [if_neg (by decide +kernel)]; exact ⟨rfl, rfl⟩))
    (fun os started H enc _ => lifted4 os started H enc)
#print axioms pixelSecrets_holds
end Go.Proofs.Ytaabkgkhjmmleaa
