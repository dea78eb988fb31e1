/- For every input PadTells answers true. -/
import Derived.Test.YtloinkjipdlfiaaRows
import Derived.Test.YtloinkjipdlfiaaSx20
namespace Go.Proofs.Ytloinkjipdlfiaa
open Go.ChangeShapes Go.WideShapes Go.ChangeAt Go.RowKit Go.Sx

theorem own : ownKnob Try.prog.godebug = none := by kernel_rfl
theorem laid : laidOutB Try.prog = true := by kernel_rfl
theorem mixed : Try.prog.follows .mixedOrders = true := by kernel_rfl

def v20 : ST := .v (.agg [.ci .u8 (.ite (.or (.cmp .lss (.iv 2) (.lit (.ofNat 0))) (.cmp .gtr (.iv 2) (.lit (.ofNat 7)))) (.lit (.ofNat 0)) (.bin .and .u8 (.bin .shr .u8 (.iv 0) (.iv 2)) (.lit (.ofNat 1)))), .cb (.bv 1)])
def ss20 : List SV := [.agg [.ci .u8 (.iv 0), .cb (.bv 1)], .c (.ci .i64 (.iv 2))]
def ks20 : List LK := [.i .u8, .b, .i .i64]
theorem args20 : argTs Try.prog Try.f20.params.toList 0 = some (ss20, ks20) := by kernel_rfl
theorem tree20 : tree Try.prog 12 (sumsIn []) 300 20 ss20 bare 0 ⟨ks20.map LK.rg, []⟩ = .leaf v20 := by kernel_rfl
def sums20 : List Sm := ⟨20, ss20, ks20, v20⟩ :: []
theorem sok20 : SumsOk Try.prog sums20 := sums_cons mixed sums_nil args20 tree20 (by kernel_rfl)
def v21 : ST := .v (.agg [.ci .u8 (.iv 0), .cb (.bl false)])
def ss21 : List SV := [.c (.ci .u8 (.iv 0))]
def ks21 : List LK := [.i .u8]
theorem args21 : argTs Try.prog Try.f21.params.toList 0 = some (ss21, ks21) := by kernel_rfl
theorem tree21 : tree Try.prog 12 (sumsIn sums20) 300 21 ss21 bare 0 ⟨ks21.map LK.rg, []⟩ = .leaf v21 := by kernel_rfl
def sums21 : List Sm := ⟨21, ss21, ks21, v21⟩ :: sums20
theorem sok21 : SumsOk Try.prog sums21 := sums_cons mixed sok20 args21 tree21 (by kernel_rfl)
def v19 : ST := .v (.agg [.ci .u8 (.bin .or .u8 (.iv 0) (.iv 2)), .cb (.or (.bv 1) (.and (.not (.bv 1)) (.bv 3)))])
def ss19 : List SV := [.agg [.ci .u8 (.iv 0), .cb (.bv 1)], .agg [.ci .u8 (.iv 2), .cb (.bv 3)]]
def ks19 : List LK := [.i .u8, .b, .i .u8, .b]
theorem args19 : argTs Try.prog Try.f19.params.toList 0 = some (ss19, ks19) := by kernel_rfl
theorem tree19 : tree Try.prog 12 (sumsIn sums21) 300 19 ss19 bare 0 ⟨ks19.map LK.rg, []⟩ = .leaf v19 := by kernel_rfl
def sums19 : List Sm := ⟨19, ss19, ks19, v19⟩ :: sums21
theorem sok19 : SumsOk Try.prog sums19 := sums_cons mixed sok21 args19 tree19 (by kernel_rfl)
def x9_6 : X := .or (.cmp .lss (.iv 5) (.lit (.ofNat 0))) (.cmp .geq (.iv 5) (.lit (.ofNat 2)))
def x9_7 : X := .not x9_6
def x9_10 : X := .or x9_6 (.and x9_7 (.cmp .eql (.iv 5) (.lit (.ofNat 0))))
def x9_12 : X := .not (.bv 0)
def v9 : ST := .tup [.agg [.cb (.bv 0), .ci .u8 (.ite x9_10 (.ite x9_6 (.iv 1) (.ite x9_12 (.bin .or .u8 (.bin .shr .u8 (.iv 1) (.lit (.ofNat 1))) (.lit (.ofNat 128))) (.iv 1))) (.iv 1)), .cb (.bv 2), .ci .u8 (.ite x9_10 (.iv 3) (.ite x9_12 (.bin .or .u8 (.bin .shr .u8 (.iv 3) (.lit (.ofNat 1))) (.lit (.ofNat 128))) (.iv 3))), .cb (.bv 4)], .agg [.ci .u8 (.ite x9_10 (.ite x9_6 (.lit (.ofNat 0)) (.bin .or .u8 (.bin .and .u8 (.bin .shr .u8 (.iv 1) (.lit (.ofNat 0))) (.lit (.ofNat 1))) (.lit (.ofNat 64)))) (.bin .or .u8 (.bin .and .u8 (.bin .shr .u8 (.iv 3) (.lit (.ofNat 0))) (.lit (.ofNat 1))) (.lit (.ofNat 64)))), .cb (.ite x9_10 (.and x9_7 (.bv 2)) (.bv 4))], .c (.ci .i64 (.ite x9_10 (.ite x9_6 (.lit (.ofNat 1)) (.lit (.ofNat 0))) (.lit (.ofNat 0))))]
def ss9 : List SV := [.agg [.cb (.bv 0), .ci .u8 (.iv 1), .cb (.bv 2), .ci .u8 (.iv 3), .cb (.bv 4)], .c (.ci .i64 (.iv 5))]
def ks9 : List LK := [.b, .i .u8, .b, .i .u8, .b, .i .i64]
theorem args9 : argTs Try.prog Try.f9.params.toList 0 = some (ss9, ks9) := by kernel_rfl
theorem tree9 : tree Try.prog 12 (sumsIn sums19) 300 9 ss9 bare 0 ⟨ks9.map LK.rg, []⟩ = .leaf v9 := by kernel_rfl
def sums9 : List Sm := ⟨9, ss9, ks9, v9⟩ :: sums19
theorem sok9 : SumsOk Try.prog sums9 := sums_cons mixed sok19 args9 tree9 (by kernel_rfl)
def x16_6 : X := .and (.cmp .neq (.iv 5) (.lit (.ofNat 0))) (.cmp .neq (.iv 5) (.lit (.ofNat 1)))
def x16_7 : X := .not x16_6
def x16_10 : X := .or x16_6 (.and x16_7 (.cmp .eql (.iv 5) (.lit (.ofNat 0))))
def x16_12 : X := .not (.bv 0)
def v16 : ST := .tup [.agg [.cb (.bv 0), .ci .u8 (.ite x16_10 (.ite x16_6 (.iv 1) (.ite x16_12 (.bin .add .u8 (.bin .quo .u8 (.iv 1) (.lit (.ofNat 2))) (.lit (.ofNat 128))) (.iv 1))) (.iv 1)), .cb (.bv 2), .ci .u8 (.ite x16_10 (.iv 3) (.ite x16_12 (.bin .add .u8 (.bin .quo .u8 (.iv 3) (.lit (.ofNat 2))) (.lit (.ofNat 128))) (.iv 3))), .cb (.bv 4)], .agg [.ci .u8 (.ite x16_10 (.ite x16_6 (.lit (.ofNat 0)) (.bin .add .u8 (.lit (.ofNat 64)) (.bin .rem .u8 (.iv 1) (.lit (.ofNat 2))))) (.bin .add .u8 (.lit (.ofNat 64)) (.bin .rem .u8 (.iv 3) (.lit (.ofNat 2))))), .cb (.ite x16_10 (.and x16_7 (.bv 2)) (.bv 4))], .c (.ci .i64 (.ite x16_10 (.ite x16_6 (.lit (.ofNat 1)) (.lit (.ofNat 0))) (.lit (.ofNat 0))))]
def ss16 : List SV := [.agg [.cb (.bv 0), .ci .u8 (.iv 1), .cb (.bv 2), .ci .u8 (.iv 3), .cb (.bv 4)], .c (.ci .i64 (.iv 5))]
def ks16 : List LK := [.b, .i .u8, .b, .i .u8, .b, .i .i64]
theorem args16 : argTs Try.prog Try.f16.params.toList 0 = some (ss16, ks16) := by kernel_rfl
theorem tree16 : tree Try.prog 12 (sumsIn sums9) 300 16 ss16 bare 0 ⟨ks16.map LK.rg, []⟩ = .leaf v16 := by kernel_rfl
def sums16 : List Sm := ⟨16, ss16, ks16, v16⟩ :: sums9
theorem sok16 : SumsOk Try.prog sums16 := sums_cons mixed sok9 args16 tree16 (by kernel_rfl)
def v11 : ST := .v (.agg [.cb (.bv 0), .ci .u8 (.ite (.bv 0) (.iv 5) (.iv 1)), .cb (.ite (.bv 0) (.bv 6) (.bv 2)), .ci .u8 (.ite (.bv 0) (.iv 7) (.iv 3)), .cb (.ite (.bv 0) (.bv 8) (.bv 4))])
def ss11 : List SV := [.agg [.cb (.bv 0), .ci .u8 (.iv 1), .cb (.bv 2), .ci .u8 (.iv 3), .cb (.bv 4)], .agg [.ci .u8 (.iv 5), .cb (.bv 6), .ci .u8 (.iv 7), .cb (.bv 8)]]
def ks11 : List LK := [.b, .i .u8, .b, .i .u8, .b, .i .u8, .b, .i .u8, .b]
theorem args11 : argTs Try.prog Try.f11.params.toList 0 = some (ss11, ks11) := by kernel_rfl
theorem tree11 : tree Try.prog 12 (sumsIn sums16) 300 11 ss11 bare 0 ⟨ks11.map LK.rg, []⟩ = .leaf v11 := by kernel_rfl
def sums11 : List Sm := ⟨11, ss11, ks11, v11⟩ :: sums16
theorem sok11 : SumsOk Try.prog sums11 := sums_cons mixed sok16 args11 tree11 (by kernel_rfl)
def x8_4 : X := .cmp .gtr (.bin .and .u8 (.iv 5) (.lit (.ofNat 1))) (.lit (.ofNat 0))
def v8 : ST := .v (.agg [.cb x8_4, .ci .u8 (.ite x8_4 (.iv 6) (.iv 1)), .cb (.ite x8_4 (.bv 7) (.bv 2)), .ci .u8 (.ite x8_4 (.iv 8) (.iv 3)), .cb (.ite x8_4 (.bv 9) (.bv 4))])
def ss8 : List SV := [.agg [.cb (.bv 0), .ci .u8 (.iv 1), .cb (.bv 2), .ci .u8 (.iv 3), .cb (.bv 4)], .c (.ci .u8 (.iv 5)), .agg [.ci .u8 (.iv 6), .cb (.bv 7), .ci .u8 (.iv 8), .cb (.bv 9)]]
def ks8 : List LK := [.b, .i .u8, .b, .i .u8, .b, .i .u8, .i .u8, .b, .i .u8, .b]
theorem args8 : argTs Try.prog Try.f8.params.toList 0 = some (ss8, ks8) := by kernel_rfl
theorem tree8 : tree Try.prog 12 (sumsIn sums11) 300 8 ss8 bare 0 ⟨ks8.map LK.rg, []⟩ = .leaf v8 := by kernel_rfl
def sums8 : List Sm := ⟨8, ss8, ks8, v8⟩ :: sums11
theorem sok8 : SumsOk Try.prog sums8 := sums_cons mixed sok11 args8 tree8 (by kernel_rfl)
def v18 : ST := .v (.agg [.cb (.bv 0), .ci .u8 (.ite (.bv 0) (.iv 5) (.iv 1)), .cb (.ite (.bv 0) (.bv 6) (.bv 2)), .ci .u8 (.ite (.bv 0) (.iv 7) (.iv 3)), .cb (.ite (.bv 0) (.bv 8) (.bv 4))])
def ss18 : List SV := [.agg [.cb (.bv 0), .ci .u8 (.iv 1), .cb (.bv 2), .ci .u8 (.iv 3), .cb (.bv 4)], .agg [.ci .u8 (.iv 5), .cb (.bv 6), .ci .u8 (.iv 7), .cb (.bv 8)]]
def ks18 : List LK := [.b, .i .u8, .b, .i .u8, .b, .i .u8, .b, .i .u8, .b]
theorem args18 : argTs Try.prog Try.f18.params.toList 0 = some (ss18, ks18) := by kernel_rfl
theorem tree18 : tree Try.prog 12 (sumsIn sums8) 300 18 ss18 bare 0 ⟨ks18.map LK.rg, []⟩ = .leaf v18 := by kernel_rfl
def sums18 : List Sm := ⟨18, ss18, ks18, v18⟩ :: sums8
theorem sok18 : SumsOk Try.prog sums18 := sums_cons mixed sok8 args18 tree18 (by kernel_rfl)
def x17_4 : X := .cmp .eql (.bin .rem .u8 (.iv 5) (.lit (.ofNat 2))) (.lit (.ofNat 1))
def v17 : ST := .v (.agg [.cb x17_4, .ci .u8 (.ite x17_4 (.iv 6) (.iv 1)), .cb (.ite x17_4 (.bv 7) (.bv 2)), .ci .u8 (.ite x17_4 (.iv 8) (.iv 3)), .cb (.ite x17_4 (.bv 9) (.bv 4))])
def ss17 : List SV := [.agg [.cb (.bv 0), .ci .u8 (.iv 1), .cb (.bv 2), .ci .u8 (.iv 3), .cb (.bv 4)], .c (.ci .u8 (.iv 5)), .agg [.ci .u8 (.iv 6), .cb (.bv 7), .ci .u8 (.iv 8), .cb (.bv 9)]]
def ks17 : List LK := [.b, .i .u8, .b, .i .u8, .b, .i .u8, .i .u8, .b, .i .u8, .b]
theorem args17 : argTs Try.prog Try.f17.params.toList 0 = some (ss17, ks17) := by kernel_rfl
theorem tree17 : tree Try.prog 12 (sumsIn sums18) 300 17 ss17 bare 0 ⟨ks17.map LK.rg, []⟩ = .leaf v17 := by kernel_rfl
def sums17 : List Sm := ⟨17, ss17, ks17, v17⟩ :: sums18
theorem sok17 : SumsOk Try.prog sums17 := sums_cons mixed sok18 args17 tree17 (by kernel_rfl)
def v23 : ST := .v (.agg [.ci .u8 (.iv 0), .cb (.bl false)])
def ss23 : List SV := [.agg [.ci .u8 (.iv 0), .cb (.bv 1)]]
def ks23 : List LK := [.i .u8, .b]
theorem args23 : argTs Try.prog Try.f23.params.toList 0 = some (ss23, ks23) := by kernel_rfl
theorem tree23 : tree Try.prog 12 (sumsIn sums17) 300 23 ss23 bare 0 ⟨ks23.map LK.rg, []⟩ = .leaf v23 := by kernel_rfl
def sums23 : List Sm := ⟨23, ss23, ks23, v23⟩ :: sums17
theorem sok23 : SumsOk Try.prog sums23 := sums_cons mixed sok17 args23 tree23 (by kernel_rfl)
def v12 : ST := .v (.agg [.cb (.bv 0), .ci .u8 (.iv 1), .cb (.bl false), .ci .u8 (.iv 3), .cb (.bl false)])
def ss12 : List SV := [.agg [.cb (.bv 0), .ci .u8 (.iv 1), .cb (.bv 2), .ci .u8 (.iv 3), .cb (.bv 4)]]
def ks12 : List LK := [.b, .i .u8, .b, .i .u8, .b]
theorem args12 : argTs Try.prog Try.f12.params.toList 0 = some (ss12, ks12) := by kernel_rfl
theorem tree12 : tree Try.prog 12 (sumsIn sums23) 300 12 ss12 bare 0 ⟨ks12.map LK.rg, []⟩ = .leaf v12 := by kernel_rfl
def sums12 : List Sm := ⟨12, ss12, ks12, v12⟩ :: sums23
theorem sok12 : SumsOk Try.prog sums12 := sums_cons mixed sok23 args12 tree12 (by kernel_rfl)
def v24 : ST := .v (.c (.cb (.and (.beq (.bv 1) (.bv 3)) (.or (.bv 1) (.cmp .eql (.iv 0) (.iv 2))))))
def ss24 : List SV := [.agg [.ci .u8 (.iv 0), .cb (.bv 1)], .agg [.ci .u8 (.iv 2), .cb (.bv 3)]]
def ks24 : List LK := [.i .u8, .b, .i .u8, .b]
theorem args24 : argTs Try.prog Try.f24.params.toList 0 = some (ss24, ks24) := by kernel_rfl
theorem tree24 : tree Try.prog 12 (sumsIn sums12) 300 24 ss24 bare 0 ⟨ks24.map LK.rg, []⟩ = .leaf v24 := by kernel_rfl
def sums24 : List Sm := ⟨24, ss24, ks24, v24⟩ :: sums12
theorem sok24 : SumsOk Try.prog sums24 := sums_cons mixed sok12 args24 tree24 (by kernel_rfl)
def x13_7 : X := .and (.beq (.bv 2) (.bv 7)) (.or (.bv 2) (.cmp .eql (.iv 1) (.iv 6)))
def v13 : ST := .v (.c (.cb (.and x13_7 (.and (.not (.and x13_7 (.not (.and (.beq (.bv 4) (.bv 9)) (.or (.bv 4) (.cmp .eql (.iv 3) (.iv 8))))))) (.beq (.bv 0) (.bv 5))))))
def ss13 : List SV := [.agg [.cb (.bv 0), .ci .u8 (.iv 1), .cb (.bv 2), .ci .u8 (.iv 3), .cb (.bv 4)], .agg [.cb (.bv 5), .ci .u8 (.iv 6), .cb (.bv 7), .ci .u8 (.iv 8), .cb (.bv 9)]]
def ks13 : List LK := [.b, .i .u8, .b, .i .u8, .b, .b, .i .u8, .b, .i .u8, .b]
theorem args13 : argTs Try.prog Try.f13.params.toList 0 = some (ss13, ks13) := by kernel_rfl
theorem tree13 : tree Try.prog 12 (sumsIn sums24) 300 13 ss13 bare 0 ⟨ks13.map LK.rg, []⟩ = .leaf v13 := by kernel_rfl
def sums13 : List Sm := ⟨13, ss13, ks13, v13⟩ :: sums24
theorem sok13 : SumsOk Try.prog sums13 := sums_cons mixed sok24 args13 tree13 (by kernel_rfl)
def v15 : ST := .v (.c (.cb (.ite (.or (.bv 1) (.bv 3)) (.and (.bv 1) (.bv 3)) (.cmp .eql (.iv 0) (.iv 2)))))
def ss15 : List SV := [.agg [.ci .u8 (.iv 0), .cb (.bv 1)], .agg [.ci .u8 (.iv 2), .cb (.bv 3)]]
def ks15 : List LK := [.i .u8, .b, .i .u8, .b]
theorem args15 : argTs Try.prog Try.f15.params.toList 0 = some (ss15, ks15) := by kernel_rfl
theorem tree15 : tree Try.prog 12 (sumsIn sums13) 300 15 ss15 bare 0 ⟨ks15.map LK.rg, []⟩ = .leaf v15 := by kernel_rfl
def sums15 : List Sm := ⟨15, ss15, ks15, v15⟩ :: sums13
theorem sok15 : SumsOk Try.prog sums15 := sums_cons mixed sok13 args15 tree15 (by kernel_rfl)
def v14 : ST := .v (.c (.cb (.and (.and (.beq (.bv 0) (.bv 5)) (.ite (.or (.bv 2) (.bv 7)) (.and (.bv 2) (.bv 7)) (.cmp .eql (.iv 1) (.iv 6)))) (.ite (.or (.bv 4) (.bv 9)) (.and (.bv 4) (.bv 9)) (.cmp .eql (.iv 3) (.iv 8))))))
def ss14 : List SV := [.agg [.cb (.bv 0), .ci .u8 (.iv 1), .cb (.bv 2), .ci .u8 (.iv 3), .cb (.bv 4)], .agg [.cb (.bv 5), .ci .u8 (.iv 6), .cb (.bv 7), .ci .u8 (.iv 8), .cb (.bv 9)]]
def ks14 : List LK := [.b, .i .u8, .b, .i .u8, .b, .b, .i .u8, .b, .i .u8, .b]
theorem args14 : argTs Try.prog Try.f14.params.toList 0 = some (ss14, ks14) := by kernel_rfl
theorem tree14 : tree Try.prog 12 (sumsIn sums15) 300 14 ss14 bare 0 ⟨ks14.map LK.rg, []⟩ = .leaf v14 := by kernel_rfl
def sums14 : List Sm := ⟨14, ss14, ks14, v14⟩ :: sums15
theorem sok14 : SumsOk Try.prog sums14 := sums_cons mixed sok15 args14 tree14 (by kernel_rfl)
def v10 : ST := .v (.c (.cb (.bl true)))
def ss10 : List SV := []
def ks10 : List LK := []
theorem args10 : argTs Try.prog Try.f10.params.toList 0 = some (ss10, ks10) := by kernel_rfl
theorem tree10 : tree Try.prog 12 (sumsIn sums14) 300 10 ss10 bare 0 ⟨ks10.map LK.rg, []⟩ = .leaf v10 := by kernel_rfl
def sums10 : List Sm := ⟨10, ss10, ks10, v10⟩ :: sums14
theorem sok10 : SumsOk Try.prog sums10 := sums_cons mixed sok14 args10 tree10 (by kernel_rfl)
def ss7 : List SV := [.agg [.cb (.bv 0), .ci .u8 (.iv 1), .cb (.bv 2), .ci .u8 (.iv 3), .cb (.bv 4), .ci .u8 (.iv 5), .cb (.bv 6), .ci .u8 (.iv 7), .cb (.bv 8), .ci .u8 (.iv 9), .ci .i64 (.iv 10)], .agg [.cb (.bv 11), .ci .u8 (.iv 12), .cb (.bv 13), .ci .u8 (.iv 14), .cb (.bv 15)]]
def ks7 : List LK := [.b, .i .u8, .b, .i .u8, .b, .i .u8, .b, .i .u8, .b, .i .u8, .i .i64, .b, .i .u8, .b, .i .u8, .b]
theorem args7 : argTs Try.prog Try.f7.params.toList 0 = some (ss7, ks7) := by kernel_rfl
def c0 : X := .cmp .lss (.iv 10) (.lit (.ofNat 0))
def c1 : X := .cmp .geq (.iv 10) (.lit (.ofNat 2))
def c2 : X := .cmp .eql (.iv 10) (.lit (.ofNat 0))
def K_111 : Known := ((((⟨ks7.map LK.rg, []⟩ : Known).assume c0 true).assume c1 true).assume c2 true)
theorem leaf_111 : X.prove 300 100 K_111 (.bl false) = true := by kernel_rfl
def K_110 : Known := ((((⟨ks7.map LK.rg, []⟩ : Known).assume c0 true).assume c1 true).assume c2 false)
theorem leaf_110 : X.prove 300 100 K_110 (.bl false) = true := by kernel_rfl
def K_101 : Known := ((((⟨ks7.map LK.rg, []⟩ : Known).assume c0 true).assume c1 false).assume c2 true)
theorem leaf_101 : X.prove 300 100 K_101 (.bl false) = true := by kernel_rfl
def K_100 : Known := ((((⟨ks7.map LK.rg, []⟩ : Known).assume c0 true).assume c1 false).assume c2 false)
theorem leaf_100 : (tree Try.prog 3 (sumsIn sums10) 300 7 ss7 bare 8 K_100).prove 300 100 K_100 = true := by kernel_rfl
def K_011 : Known := ((((⟨ks7.map LK.rg, []⟩ : Known).assume c0 false).assume c1 true).assume c2 true)
theorem leaf_011 : X.prove 300 100 K_011 (.bl false) = true := by kernel_rfl
def K_010 : Known := ((((⟨ks7.map LK.rg, []⟩ : Known).assume c0 false).assume c1 true).assume c2 false)
theorem leaf_010 : (tree Try.prog 3 (sumsIn sums10) 300 7 ss7 bare 8 K_010).prove 300 100 K_010 = true := by kernel_rfl
def K_001 : Known := ((((⟨ks7.map LK.rg, []⟩ : Known).assume c0 false).assume c1 false).assume c2 true)
theorem leaf_001 : (tree Try.prog 3 (sumsIn sums10) 300 7 ss7 bare 8 K_001).prove 300 100 K_001 = true := by kernel_rfl
def K_000 : Known := ((((⟨ks7.map LK.rg, []⟩ : Known).assume c0 false).assume c1 false).assume c2 false)
theorem leaf_000 : (tree Try.prog 3 (sumsIn sums10) 300 7 ss7 bare 8 K_000).prove 300 100 K_000 = true := by kernel_rfl
theorem plan7 : ∀ ρ, (⟨ks7.map LK.rg, []⟩ : Known).ok ρ → ∃ K d, K.ok ρ ∧ (tree Try.prog 3 (sumsIn sums10) 300 7 ss7 bare d K).prove 300 100 K = true := fun ρ h => split_on c0 h (fun h => split_on c1 h (fun h => split_on c2 h (fun h => split_void h leaf_111) (fun h => split_void h leaf_110)) (fun h => split_on c2 h (fun h => split_void h leaf_101) (fun h => ⟨K_100, 8, h, leaf_100⟩))) (fun h => split_on c1 h (fun h => split_on c2 h (fun h => split_void h leaf_011) (fun h => ⟨K_010, 8, h, leaf_010⟩)) (fun h => split_on c2 h (fun h => ⟨K_001, 8, h, leaf_001⟩) (fun h => ⟨K_000, 8, h, leaf_000⟩)))

def zeros : Env := ⟨fun _ => 0, fun _ => false, fun _ _ => 0, fun _ _ => false, fun _ => .bool false⟩
set_option maxRecDepth 100000 in
theorem lifted7 (os : Os) (started : os.Started) (H : Type) (enc : TypeId × Value → H) :
    ReturnsInHanded {} Try.checked os 7 .any (Rows.padTellsSpec.pre6 enc Try.prog Try.f7 Rows.padTellsRow.domain false) (Rows.padTellsSpec.post enc Try.prog Try.f7 false true false false) := by
  refine returnsInHanded_of_change (C := Try.checked) own started (by kernel_rfl) Try.func7
    (ChangeSpec.witness6 (enc := enc) (C := Try.checked) false ⟨#[], (ss7.map (SV.den zeros fun _ => 0)).toArray, []⟩ 8 (by kernel_rfl) (by kernel_rfl) (by kernel_rfl) (by kernel_rfl)) ?_
  intro W base args ds gs before hval0 hW _ _
  have hval : ∀ (j : Nat) t v, Try.f7.params[j]? = some t → args[j]? = some v → Value.okWide Try.prog W .any base t v := hval0
  have hW' := hW
  obtain ⟨p, q, hA0, hV, rfl, _, _⟩ := hW
  have hA : DataW.TrodAll enc Try.prog W 0 (fun _ => true) true Try.f7.params.toList args.toList ds p := hA0
  obtain ⟨rfl, rfl⟩ := trodVars_none hV
  have hA1 := hA
  rw [Try.params7] at hA1
  obtain ⟨v0, v1, d0, d1, p0, p1, e1, rfl, _, _, _⟩ := trodAll_two hA1
  refine (flat_plan (r := .any) (base := base) mixed sok10 args7 plan7 (w := W) (by rw [e1]; rfl) (fun j t v ht hv => hval j t v (by simpa using ht) hv)).mono fun e W' ⟨⟨v, he, hv⟩, hb⟩ => ?_
  subst hv
  subst he
  exact ⟨_, rfl, law_post (tb := 4) laid rfl (by rw [Try.params7]; intro t ht; simp at ht; first | (subst ht; exact ⟨by kernel_rfl, of_decide_eq_true (by kernel_rfl)⟩) | (rcases ht with rfl | rfl <;> exact ⟨by kernel_rfl, of_decide_eq_true (by kernel_rfl)⟩) | (rcases ht with rfl | rfl | rfl <;> exact ⟨by kernel_rfl, of_decide_eq_true (by kernel_rfl)⟩)) rfl Try.underlying4 hW' hA hb ⟨rfl, rfl, rfl⟩⟩

theorem padTells_holds : Rows.PadTellsSaid :=
  OpenClaim.holds_of_wide 7 Try.f7 rfl rfl rfl rfl rfl rfl rfl ⟨rfl, rfl, rfl, rfl, rfl⟩ rfl rfl rfl rfl rfl (by kernel_rfl) Try.func7 (by kernel_rfl)
    (of_decide_eq_true (by kernel_rfl)) (by unfold Func.isWrapper; first | (rw [if_pos (by decide +kernel)]; kernel_rfl) | (rw [if_neg (by decide +kernel)]; exact ⟨rfl, rfl⟩))
    (fun os started H enc _ => lifted7 os started H enc)
#print axioms padTells_holds
end Go.Proofs.Ytloinkjipdlfiaa
