/- For every input PadAlike answers true. -/
import Derived.Test.YtloinkjipdlfiaaRows
import Derived.Test.YtloinkjipdlfiaaSx23
namespace Go.Proofs.Ytloinkjipdlfiaa
open Go.ChangeShapes Go.WideShapes Go.ChangeAt Go.RowKit Go.Sx

theorem own : ownKnob Try.prog.godebug = none := by kernel_rfl
theorem laid : laidOutB Try.prog = true := by kernel_rfl
theorem mixed : Try.prog.follows .mixedOrders = true := by kernel_rfl

def v24 : ST := .v (.c (.cb (.and (.beq (.bv 1) (.bv 3)) (.or (.bv 1) (.cmp .eql (.iv 0) (.iv 2))))))
def ss24 : List SV := [.agg [.ci .u8 (.iv 0), .cb (.bv 1)], .agg [.ci .u8 (.iv 2), .cb (.bv 3)]]
def ks24 : List LK := [.i .u8, .b, .i .u8, .b]
theorem args24 : argTs Try.prog Try.f24.params.toList 0 = some (ss24, ks24) := by kernel_rfl
theorem tree24 : tree Try.prog 12 (sumsIn []) 300 24 ss24 bare 0 ⟨ks24.map LK.rg, []⟩ = .leaf v24 := by kernel_rfl
def sums24 : List Sm := ⟨24, ss24, ks24, v24⟩ :: []
theorem sok24 : SumsOk Try.prog sums24 := sums_cons mixed sums_nil args24 tree24 (by kernel_rfl)
def x13_7 : X := .and (.beq (.bv 2) (.bv 7)) (.or (.bv 2) (.cmp .eql (.iv 1) (.iv 6)))
def v13 : ST := .v (.c (.cb (.and x13_7 (.and (.not (.and x13_7 (.not (.and (.beq (.bv 4) (.bv 9)) (.or (.bv 4) (.cmp .eql (.iv 3) (.iv 8))))))) (.beq (.bv 0) (.bv 5))))))
def ss13 : List SV := [.agg [.cb (.bv 0), .ci .u8 (.iv 1), .cb (.bv 2), .ci .u8 (.iv 3), .cb (.bv 4)], .agg [.cb (.bv 5), .ci .u8 (.iv 6), .cb (.bv 7), .ci .u8 (.iv 8), .cb (.bv 9)]]
def ks13 : List LK := [.b, .i .u8, .b, .i .u8, .b, .b, .i .u8, .b, .i .u8, .b]
theorem args13 : argTs Try.prog Try.f13.params.toList 0 = some (ss13, ks13) := by kernel_rfl
theorem tree13 : tree Try.prog 12 (sumsIn sums24) 300 13 ss13 bare 0 ⟨ks13.map LK.rg, []⟩ = .leaf v13 := by kernel_rfl
def sums13 : List Sm := ⟨13, ss13, ks13, v13⟩ :: sums24
theorem sok13 : SumsOk Try.prog sums13 := sums_cons mixed sok24 args13 tree13 (by kernel_rfl)
def v15 : ST := .v (.c (.cb (.ite (.or (.bv 1) (.bv 3)) (.and (.bv 1) (.bv 3)) (.cmp .eql (.iv 0) (.iv 2)))))
def ss15 : List SV := [.agg [.ci .u8 (.iv 0), .cb (.bv 1)], .agg [.ci .u8 (.iv 2), .cb (.bv 3)]]
def ks15 : List LK := [.i .u8, .b, .i .u8, .b]
theorem args15 : argTs Try.prog Try.f15.params.toList 0 = some (ss15, ks15) := by kernel_rfl
theorem tree15 : tree Try.prog 12 (sumsIn sums13) 300 15 ss15 bare 0 ⟨ks15.map LK.rg, []⟩ = .leaf v15 := by kernel_rfl
def sums15 : List Sm := ⟨15, ss15, ks15, v15⟩ :: sums13
theorem sok15 : SumsOk Try.prog sums15 := sums_cons mixed sok13 args15 tree15 (by kernel_rfl)
def v14 : ST := .v (.c (.cb (.and (.and (.beq (.bv 0) (.bv 5)) (.ite (.or (.bv 2) (.bv 7)) (.and (.bv 2) (.bv 7)) (.cmp .eql (.iv 1) (.iv 6)))) (.ite (.or (.bv 4) (.bv 9)) (.and (.bv 4) (.bv 9)) (.cmp .eql (.iv 3) (.iv 8))))))
def ss14 : List SV := [.agg [.cb (.bv 0), .ci .u8 (.iv 1), .cb (.bv 2), .ci .u8 (.iv 3), .cb (.bv 4)], .agg [.cb (.bv 5), .ci .u8 (.iv 6), .cb (.bv 7), .ci .u8 (.iv 8), .cb (.bv 9)]]
def ks14 : List LK := [.b, .i .u8, .b, .i .u8, .b, .b, .i .u8, .b, .i .u8, .b]
theorem args14 : argTs Try.prog Try.f14.params.toList 0 = some (ss14, ks14) := by kernel_rfl
theorem tree14 : tree Try.prog 12 (sumsIn sums15) 300 14 ss14 bare 0 ⟨ks14.map LK.rg, []⟩ = .leaf v14 := by kernel_rfl
def sums14 : List Sm := ⟨14, ss14, ks14, v14⟩ :: sums15
theorem sok14 : SumsOk Try.prog sums14 := sums_cons mixed sok15 args14 tree14 (by kernel_rfl)
def v11 : ST := .v (.agg [.cb (.bv 0), .ci .u8 (.ite (.bv 0) (.iv 5) (.iv 1)), .cb (.ite (.bv 0) (.bv 6) (.bv 2)), .ci .u8 (.ite (.bv 0) (.iv 7) (.iv 3)), .cb (.ite (.bv 0) (.bv 8) (.bv 4))])
def ss11 : List SV := [.agg [.cb (.bv 0), .ci .u8 (.iv 1), .cb (.bv 2), .ci .u8 (.iv 3), .cb (.bv 4)], .agg [.ci .u8 (.iv 5), .cb (.bv 6), .ci .u8 (.iv 7), .cb (.bv 8)]]
def ks11 : List LK := [.b, .i .u8, .b, .i .u8, .b, .i .u8, .b, .i .u8, .b]
theorem args11 : argTs Try.prog Try.f11.params.toList 0 = some (ss11, ks11) := by kernel_rfl
theorem tree11 : tree Try.prog 12 (sumsIn sums14) 300 11 ss11 bare 0 ⟨ks11.map LK.rg, []⟩ = .leaf v11 := by kernel_rfl
def sums11 : List Sm := ⟨11, ss11, ks11, v11⟩ :: sums14
theorem sok11 : SumsOk Try.prog sums11 := sums_cons mixed sok14 args11 tree11 (by kernel_rfl)
def x8_4 : X := .cmp .gtr (.bin .and .u8 (.iv 5) (.lit (.ofNat 1))) (.lit (.ofNat 0))
def v8 : ST := .v (.agg [.cb x8_4, .ci .u8 (.ite x8_4 (.iv 6) (.iv 1)), .cb (.ite x8_4 (.bv 7) (.bv 2)), .ci .u8 (.ite x8_4 (.iv 8) (.iv 3)), .cb (.ite x8_4 (.bv 9) (.bv 4))])
def ss8 : List SV := [.agg [.cb (.bv 0), .ci .u8 (.iv 1), .cb (.bv 2), .ci .u8 (.iv 3), .cb (.bv 4)], .c (.ci .u8 (.iv 5)), .agg [.ci .u8 (.iv 6), .cb (.bv 7), .ci .u8 (.iv 8), .cb (.bv 9)]]
def ks8 : List LK := [.b, .i .u8, .b, .i .u8, .b, .i .u8, .i .u8, .b, .i .u8, .b]
theorem args8 : argTs Try.prog Try.f8.params.toList 0 = some (ss8, ks8) := by kernel_rfl
theorem tree8 : tree Try.prog 12 (sumsIn sums11) 300 8 ss8 bare 0 ⟨ks8.map LK.rg, []⟩ = .leaf v8 := by kernel_rfl
def sums8 : List Sm := ⟨8, ss8, ks8, v8⟩ :: sums11
theorem sok8 : SumsOk Try.prog sums8 := sums_cons mixed sok11 args8 tree8 (by kernel_rfl)
def v20 : ST := .v (.agg [.ci .u8 (.ite (.or (.cmp .lss (.iv 2) (.lit (.ofNat 0))) (.cmp .gtr (.iv 2) (.lit (.ofNat 7)))) (.lit (.ofNat 0)) (.bin .and .u8 (.bin .shr .u8 (.iv 0) (.iv 2)) (.lit (.ofNat 1)))), .cb (.bv 1)])
def ss20 : List SV := [.agg [.ci .u8 (.iv 0), .cb (.bv 1)], .c (.ci .i64 (.iv 2))]
def ks20 : List LK := [.i .u8, .b, .i .i64]
theorem args20 : argTs Try.prog Try.f20.params.toList 0 = some (ss20, ks20) := by kernel_rfl
theorem tree20 : tree Try.prog 12 (sumsIn sums8) 300 20 ss20 bare 0 ⟨ks20.map LK.rg, []⟩ = .leaf v20 := by kernel_rfl
def sums20 : List Sm := ⟨20, ss20, ks20, v20⟩ :: sums8
theorem sok20 : SumsOk Try.prog sums20 := sums_cons mixed sok8 args20 tree20 (by kernel_rfl)
def v21 : ST := .v (.agg [.ci .u8 (.iv 0), .cb (.bl false)])
def ss21 : List SV := [.c (.ci .u8 (.iv 0))]
def ks21 : List LK := [.i .u8]
theorem args21 : argTs Try.prog Try.f21.params.toList 0 = some (ss21, ks21) := by kernel_rfl
theorem tree21 : tree Try.prog 12 (sumsIn sums20) 300 21 ss21 bare 0 ⟨ks21.map LK.rg, []⟩ = .leaf v21 := by kernel_rfl
def sums21 : List Sm := ⟨21, ss21, ks21, v21⟩ :: sums20
theorem sok21 : SumsOk Try.prog sums21 := sums_cons mixed sok20 args21 tree21 (by kernel_rfl)
def v19 : ST := .v (.agg [.ci .u8 (.bin .or .u8 (.iv 0) (.iv 2)), .cb (.or (.bv 1) (.and (.not (.bv 1)) (.bv 3)))])
def ss19 : List SV := [.agg [.ci .u8 (.iv 0), .cb (.bv 1)], .agg [.ci .u8 (.iv 2), .cb (.bv 3)]]
def ks19 : List LK := [.i .u8, .b, .i .u8, .b]
theorem args19 : argTs Try.prog Try.f19.params.toList 0 = some (ss19, ks19) := by kernel_rfl
theorem tree19 : tree Try.prog 12 (sumsIn sums21) 300 19 ss19 bare 0 ⟨ks19.map LK.rg, []⟩ = .leaf v19 := by kernel_rfl
def sums19 : List Sm := ⟨19, ss19, ks19, v19⟩ :: sums21
theorem sok19 : SumsOk Try.prog sums19 := sums_cons mixed sok21 args19 tree19 (by kernel_rfl)
def x9_6 : X := .or (.cmp .lss (.iv 5) (.lit (.ofNat 0))) (.cmp .geq (.iv 5) (.lit (.ofNat 2)))
def x9_7 : X := .not x9_6
def x9_10 : X := .or x9_6 (.and x9_7 (.cmp .eql (.iv 5) (.lit (.ofNat 0))))
def x9_12 : X := .not (.bv 0)
def v9 : ST := .tup [.agg [.cb (.bv 0), .ci .u8 (.ite x9_10 (.ite x9_6 (.iv 1) (.ite x9_12 (.bin .or .u8 (.bin .shr .u8 (.iv 1) (.lit (.ofNat 1))) (.lit (.ofNat 128))) (.iv 1))) (.iv 1)), .cb (.bv 2), .ci .u8 (.ite x9_10 (.iv 3) (.ite x9_12 (.bin .or .u8 (.bin .shr .u8 (.iv 3) (.lit (.ofNat 1))) (.lit (.ofNat 128))) (.iv 3))), .cb (.bv 4)], .agg [.ci .u8 (.ite x9_10 (.ite x9_6 (.lit (.ofNat 0)) (.bin .or .u8 (.bin .and .u8 (.bin .shr .u8 (.iv 1) (.lit (.ofNat 0))) (.lit (.ofNat 1))) (.lit (.ofNat 64)))) (.bin .or .u8 (.bin .and .u8 (.bin .shr .u8 (.iv 3) (.lit (.ofNat 0))) (.lit (.ofNat 1))) (.lit (.ofNat 64)))), .cb (.ite x9_10 (.and x9_7 (.bv 2)) (.bv 4))], .c (.ci .i64 (.ite x9_10 (.ite x9_6 (.lit (.ofNat 1)) (.lit (.ofNat 0))) (.lit (.ofNat 0))))]
def ss9 : List SV := [.agg [.cb (.bv 0), .ci .u8 (.iv 1), .cb (.bv 2), .ci .u8 (.iv 3), .cb (.bv 4)], .c (.ci .i64 (.iv 5))]
def ks9 : List LK := [.b, .i .u8, .b, .i .u8, .b, .i .i64]
theorem args9 : argTs Try.prog Try.f9.params.toList 0 = some (ss9, ks9) := by kernel_rfl
theorem tree9 : tree Try.prog 12 (sumsIn sums19) 300 9 ss9 bare 0 ⟨ks9.map LK.rg, []⟩ = .leaf v9 := by kernel_rfl
def sums9 : List Sm := ⟨9, ss9, ks9, v9⟩ :: sums19
theorem sok9 : SumsOk Try.prog sums9 := sums_cons mixed sok19 args9 tree9 (by kernel_rfl)
def v10 : ST := .v (.c (.cb (.bl true)))
def ss10 : List SV := []
def ks10 : List LK := []
theorem args10 : argTs Try.prog Try.f10.params.toList 0 = some (ss10, ks10) := by kernel_rfl
theorem tree10 : tree Try.prog 12 (sumsIn sums9) 300 10 ss10 bare 0 ⟨ks10.map LK.rg, []⟩ = .leaf v10 := by kernel_rfl
def sums10 : List Sm := ⟨10, ss10, ks10, v10⟩ :: sums9
theorem sok10 : SumsOk Try.prog sums10 := sums_cons mixed sok9 args10 tree10 (by kernel_rfl)
def ss6 : List SV := [.agg [.cb (.bv 0), .ci .u8 (.iv 1), .cb (.bv 2), .ci .u8 (.iv 3), .cb (.bv 4), .ci .u8 (.iv 5), .cb (.bv 6), .ci .u8 (.iv 7), .cb (.bv 8), .ci .u8 (.iv 9), .ci .i64 (.iv 10)], .c (.xs 320 (.lit 0) (.iv 11) (.iv 12)), .c (.ci .u8 (.iv 13))]
def ks6 : List LK := [.b, .i .u8, .b, .i .u8, .b, .i .u8, .b, .i .u8, .b, .i .u8, .i .i64, .i .i64, .i .i64, .i .u8]
def rs6 : List RowV := [(320, 11)]
theorem args6 : argRs Try.prog Try.f6.params.toList 0 0 = some (ss6, ks6, rs6) := by kernel_rfl
def T (l : List (Nat × Ann)) (M : Go.Sx.Mode) (K : Known) : Prop := vcF Try.prog 0 (sumsIn sums10) 300 6 l M 6 ss6 K = true
def V (K : Known) : Prop := X.prove 20 60 K (.bl false) = true
def K_0 : Known := addRows rs6 ⟨ks6.map LK.rg, []⟩
def an_0 : Ann := ⟨[0, 2, 3, 4, 5, 11, 19, 20, 21, 22, 23, 24, 25, 26, 27, 28, 29, 30, 31, 32, 33, 34, 35, 36, 37, 38, 39, 40, 41, 42, 43, 44, 45, 46, 47, 48, 49, 50, 51, 52, 53, 54, 55, 56, 57, 13, 14, 15, 16, 17, 18, 58, 59, 60, 61, 62, 63, 64, 65, 66, 67, 68, 69, 70, 71, 72, 73, 74, 75, 76, 77, 78, 79, 80, 81, 82, 83, 84, 85, 86, 87, 88, 89, 90, 91, 92, 93, 94, 95, 96, 97, 98, 99, 100, 101, 102, 103, 104, 105, 106, 107, 108, 109, 110, 111, 112, 113, 114, 115, 116, 117, 118, 119, 120, 121, 122, 123, 124, 125, 126, 127, 128, 129, 130, 131, 132, 133, 134, 135, 136, 137, 138, 139], [6], [(23, .bv 14), (25, .bv 16), (27, .bv 18), (33, .bv 22), (35, .bv 24)], false, [(.bin .rem .u8 (.wrap .u8 (.fi 120480 (.iv 2))) (.lit (.ofNat 3)), 3), (.bv 16, 0), (.bv 18, 0), (.bv 22, 0), (.bv 24, 0)], false, [some (0, 9223372036854775807), some (0, 9223372036854775807), some (0, 60), none, some (0, 255), none, some (0, 255), none, some (0, 255), none, some (0, 255), none, some (0, 255), some (-9223372036854775808, 9223372036854775807), none, some (0, 255), none, some (0, 255), none, some (0, 255), some (0, 255), some (0, 255), none, some (0, 255), none, some (0, 255), some (0, 255)], [(.fb 120542 (.unit), true), (.cmp .eql (.iv 0) (.fi 120543 (.unit)), true), (.cmp .leq (.iv 0) (.iv 1), true), (.or (.bv 16) (.cmp .eql (.iv 15) (.iv 19)), true), (.or (.bv 18) (.cmp .eql (.iv 17) (.iv 20)), true), (.or (.bv 22) (.cmp .eql (.iv 21) (.iv 25)), true), (.or (.bv 24) (.cmp .eql (.iv 23) (.iv 26)), true)], .bin .sub .i64 (.lit (.ofNat 61)) (.iv 2)⟩
theorem leaf_0_0 : T [(250, an_0)] (some [2, 1, 1, 1, 1]) K_0 := by unfold T; kernel_rfl
theorem leaf_0_1 : T [(250, an_0)] (some [2, 1, 1, 1, 0]) K_0 := by unfold T; kernel_rfl
theorem leaf_0_2 : T [(250, an_0)] (some [2, 1, 1, 0, 1]) K_0 := by unfold T; kernel_rfl
theorem leaf_0_3 : T [(250, an_0)] (some [2, 1, 1, 0, 0]) K_0 := by unfold T; kernel_rfl
theorem leaf_0_4 : T [(250, an_0)] (some [2, 1, 0, 1, 1]) K_0 := by unfold T; kernel_rfl
theorem leaf_0_5 : T [(250, an_0)] (some [2, 1, 0, 1, 0]) K_0 := by unfold T; kernel_rfl
theorem leaf_0_6 : T [(250, an_0)] (some [2, 1, 0, 0, 1]) K_0 := by unfold T; kernel_rfl
theorem leaf_0_7 : T [(250, an_0)] (some [2, 1, 0, 0, 0]) K_0 := by unfold T; kernel_rfl
theorem leaf_0_8 : T [(250, an_0)] (some [2, 0, 1, 1, 1]) K_0 := by unfold T; kernel_rfl
theorem leaf_0_9 : T [(250, an_0)] (some [2, 0, 1, 1, 0]) K_0 := by unfold T; kernel_rfl
theorem leaf_0_10 : T [(250, an_0)] (some [2, 0, 1, 0, 1]) K_0 := by unfold T; kernel_rfl
theorem leaf_0_11 : T [(250, an_0)] (some [2, 0, 1, 0, 0]) K_0 := by unfold T; kernel_rfl
theorem leaf_0_12 : T [(250, an_0)] (some [2, 0, 0, 1, 1]) K_0 := by unfold T; kernel_rfl
theorem leaf_0_13 : T [(250, an_0)] (some [2, 0, 0, 1, 0]) K_0 := by unfold T; kernel_rfl
theorem leaf_0_14 : T [(250, an_0)] (some [2, 0, 0, 0, 1]) K_0 := by unfold T; kernel_rfl
theorem leaf_0_15 : T [(250, an_0)] (some [2, 0, 0, 0, 0]) K_0 := by unfold T; kernel_rfl
theorem leaf_0_16 : T [(250, an_0)] (some [1, 1, 1, 1, 1]) K_0 := by unfold T; kernel_rfl
theorem leaf_0_17 : T [(250, an_0)] (some [1, 1, 1, 1, 0]) K_0 := by unfold T; kernel_rfl
theorem leaf_0_18 : T [(250, an_0)] (some [1, 1, 1, 0, 1]) K_0 := by unfold T; kernel_rfl
theorem leaf_0_19 : T [(250, an_0)] (some [1, 1, 1, 0, 0]) K_0 := by unfold T; kernel_rfl
theorem leaf_0_20 : T [(250, an_0)] (some [1, 1, 0, 1, 1]) K_0 := by unfold T; kernel_rfl
theorem leaf_0_21 : T [(250, an_0)] (some [1, 1, 0, 1, 0]) K_0 := by unfold T; kernel_rfl
theorem leaf_0_22 : T [(250, an_0)] (some [1, 1, 0, 0, 1]) K_0 := by unfold T; kernel_rfl
theorem leaf_0_23 : T [(250, an_0)] (some [1, 1, 0, 0, 0]) K_0 := by unfold T; kernel_rfl
theorem leaf_0_24 : T [(250, an_0)] (some [1, 0, 1, 1, 1]) K_0 := by unfold T; kernel_rfl
theorem leaf_0_25 : T [(250, an_0)] (some [1, 0, 1, 1, 0]) K_0 := by unfold T; kernel_rfl
theorem leaf_0_26 : T [(250, an_0)] (some [1, 0, 1, 0, 1]) K_0 := by unfold T; kernel_rfl
theorem leaf_0_27 : T [(250, an_0)] (some [1, 0, 1, 0, 0]) K_0 := by unfold T; kernel_rfl
theorem leaf_0_28 : T [(250, an_0)] (some [1, 0, 0, 1, 1]) K_0 := by unfold T; kernel_rfl
theorem leaf_0_29 : T [(250, an_0)] (some [1, 0, 0, 1, 0]) K_0 := by unfold T; kernel_rfl
theorem leaf_0_30 : T [(250, an_0)] (some [1, 0, 0, 0, 1]) K_0 := by unfold T; kernel_rfl
theorem leaf_0_31 : T [(250, an_0)] (some [1, 0, 0, 0, 0]) K_0 := by unfold T; kernel_rfl
theorem leaf_0_32 : T [(250, an_0)] (some [0, 1, 1, 1, 1]) K_0 := by unfold T; kernel_rfl
theorem leaf_0_33 : T [(250, an_0)] (some [0, 1, 1, 1, 0]) K_0 := by unfold T; kernel_rfl
theorem leaf_0_34 : T [(250, an_0)] (some [0, 1, 1, 0, 1]) K_0 := by unfold T; kernel_rfl
theorem leaf_0_35 : T [(250, an_0)] (some [0, 1, 1, 0, 0]) K_0 := by unfold T; kernel_rfl
theorem leaf_0_36 : T [(250, an_0)] (some [0, 1, 0, 1, 1]) K_0 := by unfold T; kernel_rfl
theorem leaf_0_37 : T [(250, an_0)] (some [0, 1, 0, 1, 0]) K_0 := by unfold T; kernel_rfl
theorem leaf_0_38 : T [(250, an_0)] (some [0, 1, 0, 0, 1]) K_0 := by unfold T; kernel_rfl
theorem leaf_0_39 : T [(250, an_0)] (some [0, 1, 0, 0, 0]) K_0 := by unfold T; kernel_rfl
theorem leaf_0_40 : T [(250, an_0)] (some [0, 0, 1, 1, 1]) K_0 := by unfold T; kernel_rfl
theorem leaf_0_41 : T [(250, an_0)] (some [0, 0, 1, 1, 0]) K_0 := by unfold T; kernel_rfl
theorem leaf_0_42 : T [(250, an_0)] (some [0, 0, 1, 0, 1]) K_0 := by unfold T; kernel_rfl
theorem leaf_0_43 : T [(250, an_0)] (some [0, 0, 1, 0, 0]) K_0 := by unfold T; kernel_rfl
theorem leaf_0_44 : T [(250, an_0)] (some [0, 0, 0, 1, 1]) K_0 := by unfold T; kernel_rfl
theorem leaf_0_45 : T [(250, an_0)] (some [0, 0, 0, 1, 0]) K_0 := by unfold T; kernel_rfl
theorem leaf_0_46 : T [(250, an_0)] (some [0, 0, 0, 0, 1]) K_0 := by unfold T; kernel_rfl
theorem leaf_0_47 : T [(250, an_0)] (some [0, 0, 0, 0, 0]) K_0 := by unfold T; kernel_rfl
theorem leaf_0_48 : T [(250, an_0)] none K_0 := by unfold T; kernel_rfl
theorem plan6 : ∀ ρ, (addRows rs6 ⟨ks6.map LK.rg, []⟩).ok ρ → ∃ K anns, K.ok ρ ∧ AllM (fun M => vcF Try.prog 0 (sumsIn sums10) 300 6 anns M 6 ss6 K = true) (modesOf anns) := fun _ h => ⟨K_0, [(250, an_0)], h, ⟨leaf_0_0, leaf_0_1, leaf_0_2, leaf_0_3, leaf_0_4, leaf_0_5, leaf_0_6, leaf_0_7, leaf_0_8, leaf_0_9, leaf_0_10, leaf_0_11, leaf_0_12, leaf_0_13, leaf_0_14, leaf_0_15, leaf_0_16, leaf_0_17, leaf_0_18, leaf_0_19, leaf_0_20, leaf_0_21, leaf_0_22, leaf_0_23, leaf_0_24, leaf_0_25, leaf_0_26, leaf_0_27, leaf_0_28, leaf_0_29, leaf_0_30, leaf_0_31, leaf_0_32, leaf_0_33, leaf_0_34, leaf_0_35, leaf_0_36, leaf_0_37, leaf_0_38, leaf_0_39, leaf_0_40, leaf_0_41, leaf_0_42, leaf_0_43, leaf_0_44, leaf_0_45, leaf_0_46, leaf_0_47, leaf_0_48, trivial⟩⟩

def zeros : Env := ⟨fun _ => 0, fun _ => false, fun _ _ => 0, fun _ _ => true, fun _ => .bool false, fun _ => ⟨⟨0, 0, none⟩, .cells #[] 0 (0, 0)⟩⟩
set_option maxRecDepth 100000 in
theorem lifted6 (os : Os) (started : os.Started) (H : Type) (enc : TypeId × Value → H) :
    ReturnsInHanded {} Try.checked os 6 .any (Rows.padAlikeSpec.pre6 enc Try.prog Try.f6 Rows.padAlikeRow.domain false) (Rows.padAlikeSpec.post enc Try.prog Try.f6 false true false false) := by
  refine returnsInHanded_of_change (C := Try.checked) own started (by kernel_rfl) Try.func6
    (ChangeSpec.witness6 (enc := enc) (C := Try.checked) false ⟨#[], (ss6.map (SV.den zeros fun _ => 0)).toArray, []⟩ 8 (by kernel_rfl) (by kernel_rfl) (by kernel_rfl) (by kernel_rfl)) ?_
  intro W base args ds gs before hval0 hW _ _
  have hval : ∀ (j : Nat) t v, Try.f6.params[j]? = some t → args[j]? = some v → Value.okWide Try.prog W .any base t v := hval0
  have hW' := hW
  obtain ⟨p, q, hA0, hV, rfl, _, _⟩ := hW
  have hA : DataW.TrodAll enc Try.prog W 0 (fun _ => true) true Try.f6.params.toList args.toList ds p := hA0
  obtain ⟨rfl, rfl⟩ := trodVars_none hV
  have hA1 := hA
  rw [Try.params6] at hA1
  obtain ⟨v0, v1, v2, d0, d1, d2, p0, p1, p2, _, rfl, _, _, _, _⟩ := trodAll_three hA1
  refine (rows_vc (r := .any) (base := base) mixed sok10 args6 plan6 (fun j t v ht hv => hval j t v (by simpa using ht) hv) hA).mono fun e W' ⟨⟨v, he, hv⟩, hb⟩ => ?_
  subst hv
  subst he
  exact ⟨_, rfl, law_post (tb := 4) laid rfl (by rw [Try.params6]; intro t ht; simp at ht; first | (subst ht; exact ⟨by kernel_rfl, of_decide_eq_true (by kernel_rfl)⟩) | (rcases ht with rfl | rfl <;> exact ⟨by kernel_rfl, of_decide_eq_true (by kernel_rfl)⟩) | (rcases ht with rfl | rfl | rfl <;> exact ⟨by kernel_rfl, of_decide_eq_true (by kernel_rfl)⟩)) rfl Try.underlying4 hW' hA hb ⟨rfl, rfl, rfl⟩⟩

theorem padAlike_holds : Rows.PadAlikeSaid :=
  OpenClaim.holds_of_wide 6 Try.f6 rfl rfl rfl rfl rfl rfl rfl ⟨rfl, rfl, rfl, rfl, rfl⟩ rfl rfl rfl rfl rfl (by kernel_rfl) Try.func6 (by kernel_rfl)
    (of_decide_eq_true (by kernel_rfl)) (by unfold Func.isWrapper; first | (rw [if_pos (by decide +kernel)]; kernel_rfl) | (rw [if_neg (by decide +kernel)]; exact ⟨rfl, rfl⟩))
    (fun os started H enc _ => lifted6 os started H enc)
#print axioms padAlike_holds
end Go.Proofs.Ytloinkjipdlfiaa
