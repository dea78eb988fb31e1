/- For every input AluErased answers true. -/
import Derived.Test.YtdgjenlejalgeaaRows
import Derived.Test.YtdgjenlejalgeaaSx24
namespace Go.Proofs.Ytdgjenlejalgeaa
open Go.ChangeShapes Go.WideShapes Go.ChangeAt Go.RowKit Go.Sx

theorem own : ownKnob Try.prog.godebug = none := by kernel_rfl
theorem laid : laidOutB Try.prog = true := by kernel_rfl
theorem mixed : Try.prog.follows .mixedOrders = true := by kernel_rfl

def x11_4 : X := .cmp .neq (.bin .and .u64 (.iv 2) (.lit (.ofNat 128))) (.lit (.ofNat 0))
def x11_12 : X := .cmp .neq (.bin .and .u64 (.iv 2) (.lit (.ofNat 64))) (.lit (.ofNat 0))
def x11_19 : X := .cmp .neq (.bin .and .u64 (.iv 2) (.lit (.ofNat 8))) (.lit (.ofNat 0))
def x11_26 : X := .cmp .neq (.bin .and .u64 (.iv 2) (.lit (.ofNat 4))) (.lit (.ofNat 0))
def x11_33 : X := .cmp .neq (.bin .and .u64 (.iv 2) (.lit (.ofNat 2))) (.lit (.ofNat 0))
def x11_40 : X := .cmp .neq (.bin .and .u64 (.iv 2) (.lit (.ofNat 1))) (.lit (.ofNat 0))
def v11 : ST := .v (.agg [.ci .u8 (.ite (.cmp .gtr (.bin .or .u8 (.ite (.and x11_4 (.cmp .neq (.bin .and .u64 (.iv 0) (.lit (.ofNat 128))) (.lit (.ofNat 0)))) (.lit (.ofNat 128)) (.lit (.ofNat 0))) (.bin .or .u8 (.ite (.and x11_12 (.cmp .neq (.bin .and .u64 (.iv 0) (.lit (.ofNat 64))) (.lit (.ofNat 0)))) (.lit (.ofNat 64)) (.lit (.ofNat 0))) (.bin .or .u8 (.ite (.and x11_19 (.cmp .neq (.bin .and .u64 (.iv 0) (.lit (.ofNat 8))) (.lit (.ofNat 0)))) (.lit (.ofNat 8)) (.lit (.ofNat 0))) (.bin .or .u8 (.ite (.and x11_26 (.cmp .neq (.bin .and .u64 (.iv 0) (.lit (.ofNat 4))) (.lit (.ofNat 0)))) (.lit (.ofNat 4)) (.lit (.ofNat 0))) (.bin .or .u8 (.ite (.and x11_33 (.cmp .neq (.bin .and .u64 (.iv 0) (.lit (.ofNat 2))) (.lit (.ofNat 0)))) (.lit (.ofNat 2)) (.lit (.ofNat 0))) (.ite (.and x11_40 (.cmp .neq (.bin .and .u64 (.iv 0) (.lit (.ofNat 1))) (.lit (.ofNat 0)))) (.lit (.ofNat 1)) (.lit (.ofNat 0)))))))) (.lit (.ofNat 0))) (.lit (.ofNat 1)) (.lit (.ofNat 0))), .cb (.cmp .gtr (.bin .or .u8 (.ite (.and x11_4 (.cmp .neq (.bin .and .u64 (.iv 1) (.lit (.ofNat 128))) (.lit (.ofNat 0)))) (.lit (.ofNat 128)) (.lit (.ofNat 0))) (.bin .or .u8 (.ite (.and x11_12 (.cmp .neq (.bin .and .u64 (.iv 1) (.lit (.ofNat 64))) (.lit (.ofNat 0)))) (.lit (.ofNat 64)) (.lit (.ofNat 0))) (.bin .or .u8 (.ite (.and x11_19 (.cmp .neq (.bin .and .u64 (.iv 1) (.lit (.ofNat 8))) (.lit (.ofNat 0)))) (.lit (.ofNat 8)) (.lit (.ofNat 0))) (.bin .or .u8 (.ite (.and x11_26 (.cmp .neq (.bin .and .u64 (.iv 1) (.lit (.ofNat 4))) (.lit (.ofNat 0)))) (.lit (.ofNat 4)) (.lit (.ofNat 0))) (.bin .or .u8 (.ite (.and x11_33 (.cmp .neq (.bin .and .u64 (.iv 1) (.lit (.ofNat 2))) (.lit (.ofNat 0)))) (.lit (.ofNat 2)) (.lit (.ofNat 0))) (.ite (.and x11_40 (.cmp .neq (.bin .and .u64 (.iv 1) (.lit (.ofNat 1))) (.lit (.ofNat 0)))) (.lit (.ofNat 1)) (.lit (.ofNat 0)))))))) (.lit (.ofNat 0)))])
def ss11 : List SV := [.agg [.ci .u8 (.iv 0), .ci .u8 (.iv 1)], .c (.ci .u8 (.iv 2))]
def ks11 : List LK := [.i .u8, .i .u8, .i .u8]
theorem args11 : argTs Try.prog Try.f11.params.toList 0 = some (ss11, ks11) := by kernel_rfl
theorem tree11 : (tree Try.prog 12 (sumsIn []) 300 11 ss11 bare 0 ⟨ks11.map LK.rg, []⟩).small ⟨ks11.map LK.rg, []⟩ = some v11 := by kernel_rfl
def sums11 : List Sm := ⟨11, ss11, ks11, v11⟩ :: []
theorem sok11 : SumsOk Try.prog sums11 := sums_norm mixed sums_nil args11 tree11 (by kernel_rfl)
def v9 : ST := .v (.agg [.ci .u8 (.bin .and .u8 (.iv 0) (.lit (.ofNat 207))), .ci .u8 (.bin .and .u8 (.iv 1) (.lit (.ofNat 207)))])
def ss9 : List SV := [.agg [.ci .u8 (.iv 0), .ci .u8 (.iv 1)]]
def ks9 : List LK := [.i .u8, .i .u8]
theorem args9 : argTs Try.prog Try.f9.params.toList 0 = some (ss9, ks9) := by kernel_rfl
theorem tree9 : tree Try.prog 12 (sumsIn sums11) 300 9 ss9 bare 0 ⟨ks9.map LK.rg, []⟩ = .leaf v9 := by kernel_rfl
def sums9 : List Sm := ⟨9, ss9, ks9, v9⟩ :: sums11
theorem sok9 : SumsOk Try.prog sums9 := sums_cons mixed sok11 args9 tree9 (by kernel_rfl)
def x13_2 : X := .cmp .neq (.iv 3) (.lit (.ofNat 0))
def x13_6 : X := .cmp .neq (.bin .and .u64 (.iv 2) (.lit (.ofNat 128))) (.lit (.ofNat 0))
def x13_9 : X := .cmp .neq (.bin .and .u64 (.iv 0) (.lit (.ofNat 128))) (.lit (.ofNat 0))
def x13_11 : X := .not x13_6
def x13_17 : X := .cmp .neq (.bin .and .u64 (.iv 2) (.lit (.ofNat 64))) (.lit (.ofNat 0))
def x13_19 : X := .cmp .neq (.bin .and .u64 (.iv 0) (.lit (.ofNat 64))) (.lit (.ofNat 0))
def x13_21 : X := .not x13_17
def x13_27 : X := .cmp .neq (.bin .and .u64 (.iv 2) (.lit (.ofNat 8))) (.lit (.ofNat 0))
def x13_29 : X := .cmp .neq (.bin .and .u64 (.iv 0) (.lit (.ofNat 8))) (.lit (.ofNat 0))
def x13_31 : X := .not x13_27
def x13_37 : X := .cmp .neq (.bin .and .u64 (.iv 2) (.lit (.ofNat 4))) (.lit (.ofNat 0))
def x13_39 : X := .cmp .neq (.bin .and .u64 (.iv 0) (.lit (.ofNat 4))) (.lit (.ofNat 0))
def x13_41 : X := .not x13_37
def x13_47 : X := .cmp .neq (.bin .and .u64 (.iv 2) (.lit (.ofNat 2))) (.lit (.ofNat 0))
def x13_49 : X := .cmp .neq (.bin .and .u64 (.iv 0) (.lit (.ofNat 2))) (.lit (.ofNat 0))
def x13_51 : X := .not x13_47
def x13_57 : X := .cmp .neq (.bin .and .u64 (.iv 2) (.lit (.ofNat 1))) (.lit (.ofNat 0))
def x13_59 : X := .cmp .neq (.bin .and .u64 (.iv 0) (.lit (.ofNat 1))) (.lit (.ofNat 0))
def x13_61 : X := .not x13_57
def x13_73 : X := .cmp .neq (.bin .and .u64 (.iv 1) (.lit (.ofNat 128))) (.lit (.ofNat 0))
def x13_79 : X := .cmp .neq (.bin .and .u64 (.iv 1) (.lit (.ofNat 64))) (.lit (.ofNat 0))
def x13_85 : X := .cmp .neq (.bin .and .u64 (.iv 1) (.lit (.ofNat 8))) (.lit (.ofNat 0))
def x13_91 : X := .cmp .neq (.bin .and .u64 (.iv 1) (.lit (.ofNat 4))) (.lit (.ofNat 0))
def x13_97 : X := .cmp .neq (.bin .and .u64 (.iv 1) (.lit (.ofNat 2))) (.lit (.ofNat 0))
def x13_103 : X := .cmp .neq (.bin .and .u64 (.iv 1) (.lit (.ofNat 1))) (.lit (.ofNat 0))
def v13 : ST := .v (.agg [.ci .u8 (.bin .or .u8 (.ite (.ite x13_2 (.or x13_6 x13_9) (.and x13_11 x13_9)) (.lit (.ofNat 128)) (.lit (.ofNat 0))) (.bin .or .u8 (.ite (.ite x13_2 (.or x13_17 x13_19) (.and x13_21 x13_19)) (.lit (.ofNat 64)) (.lit (.ofNat 0))) (.bin .or .u8 (.ite (.ite x13_2 (.or x13_27 x13_29) (.and x13_31 x13_29)) (.lit (.ofNat 8)) (.lit (.ofNat 0))) (.bin .or .u8 (.ite (.ite x13_2 (.or x13_37 x13_39) (.and x13_41 x13_39)) (.lit (.ofNat 4)) (.lit (.ofNat 0))) (.bin .or .u8 (.ite (.ite x13_2 (.or x13_47 x13_49) (.and x13_51 x13_49)) (.lit (.ofNat 2)) (.lit (.ofNat 0))) (.ite (.ite x13_2 (.or x13_57 x13_59) (.and x13_61 x13_59)) (.lit (.ofNat 1)) (.lit (.ofNat 0)))))))), .ci .u8 (.bin .or .u8 (.ite (.ite (.bv 4) (.or x13_6 x13_73) (.and x13_11 x13_73)) (.lit (.ofNat 128)) (.lit (.ofNat 0))) (.bin .or .u8 (.ite (.ite (.bv 4) (.or x13_17 x13_79) (.and x13_21 x13_79)) (.lit (.ofNat 64)) (.lit (.ofNat 0))) (.bin .or .u8 (.ite (.ite (.bv 4) (.or x13_27 x13_85) (.and x13_31 x13_85)) (.lit (.ofNat 8)) (.lit (.ofNat 0))) (.bin .or .u8 (.ite (.ite (.bv 4) (.or x13_37 x13_91) (.and x13_41 x13_91)) (.lit (.ofNat 4)) (.lit (.ofNat 0))) (.bin .or .u8 (.ite (.ite (.bv 4) (.or x13_47 x13_97) (.and x13_51 x13_97)) (.lit (.ofNat 2)) (.lit (.ofNat 0))) (.ite (.ite (.bv 4) (.or x13_57 x13_103) (.and x13_61 x13_103)) (.lit (.ofNat 1)) (.lit (.ofNat 0))))))))])
def ss13 : List SV := [.agg [.ci .u8 (.iv 0), .ci .u8 (.iv 1)], .c (.ci .u8 (.iv 2)), .agg [.ci .u8 (.iv 3), .cb (.bv 4)]]
def ks13 : List LK := [.i .u8, .i .u8, .i .u8, .i .u8, .b]
theorem args13 : argTs Try.prog Try.f13.params.toList 0 = some (ss13, ks13) := by kernel_rfl
theorem tree13 : (tree Try.prog 12 (sumsIn sums9) 300 13 ss13 bare 0 ⟨ks13.map LK.rg, []⟩).small ⟨ks13.map LK.rg, []⟩ = some v13 := by kernel_rfl
def sums13 : List Sm := ⟨13, ss13, ks13, v13⟩ :: sums9
theorem sok13 : SumsOk Try.prog sums13 := sums_norm mixed sok9 args13 tree13 (by kernel_rfl)
def v15 : ST := .v (.agg [.ci .u8 (.bin .or .u8 (.ite (.cmp .gtr (.iv 2) (.lit (.ofNat 127))) (.lit (.ofNat 128)) (.lit (.ofNat 0))) (.bin .or .u8 (.ite (.cmp .neq (.bin .and .u64 (.iv 0) (.lit (.ofNat 64))) (.lit (.ofNat 0))) (.lit (.ofNat 64)) (.lit (.ofNat 0))) (.bin .or .u8 (.ite (.cmp .neq (.bin .and .u64 (.iv 0) (.lit (.ofNat 8))) (.lit (.ofNat 0))) (.lit (.ofNat 8)) (.lit (.ofNat 0))) (.bin .or .u8 (.ite (.cmp .neq (.bin .and .u64 (.iv 0) (.lit (.ofNat 4))) (.lit (.ofNat 0))) (.lit (.ofNat 4)) (.lit (.ofNat 0))) (.bin .or .u8 (.ite (.cmp .eql (.iv 2) (.lit (.ofNat 0))) (.lit (.ofNat 2)) (.lit (.ofNat 0))) (.ite (.cmp .neq (.bin .and .u64 (.iv 0) (.lit (.ofNat 1))) (.lit (.ofNat 0))) (.lit (.ofNat 1)) (.lit (.ofNat 0)))))))), .ci .u8 (.bin .or .u8 (.ite (.bv 3) (.lit (.ofNat 128)) (.lit (.ofNat 0))) (.bin .or .u8 (.ite (.cmp .neq (.bin .and .u64 (.iv 1) (.lit (.ofNat 64))) (.lit (.ofNat 0))) (.lit (.ofNat 64)) (.lit (.ofNat 0))) (.bin .or .u8 (.ite (.cmp .neq (.bin .and .u64 (.iv 1) (.lit (.ofNat 8))) (.lit (.ofNat 0))) (.lit (.ofNat 8)) (.lit (.ofNat 0))) (.bin .or .u8 (.ite (.cmp .neq (.bin .and .u64 (.iv 1) (.lit (.ofNat 4))) (.lit (.ofNat 0))) (.lit (.ofNat 4)) (.lit (.ofNat 0))) (.bin .or .u8 (.ite (.bv 3) (.lit (.ofNat 2)) (.lit (.ofNat 0))) (.ite (.cmp .neq (.bin .and .u64 (.iv 1) (.lit (.ofNat 1))) (.lit (.ofNat 0))) (.lit (.ofNat 1)) (.lit (.ofNat 0))))))))])
def ss15 : List SV := [.agg [.ci .u8 (.iv 0), .ci .u8 (.iv 1)], .agg [.ci .u8 (.iv 2), .cb (.bv 3)]]
def ks15 : List LK := [.i .u8, .i .u8, .i .u8, .b]
theorem args15 : argTs Try.prog Try.f15.params.toList 0 = some (ss15, ks15) := by kernel_rfl
theorem tree15 : tree Try.prog 12 (sumsIn sums13) 300 15 ss15 bare 0 ⟨ks15.map LK.rg, []⟩ = .leaf v15 := by kernel_rfl
def sums15 : List Sm := ⟨15, ss15, ks15, v15⟩ :: sums13
theorem sok15 : SumsOk Try.prog sums15 := sums_cons mixed sok13 args15 tree15 (by kernel_rfl)
def x22_16 : X := .bin .add .u64 (.bin .add .u64 (.iv 2) (.iv 4)) (.ite (.cmp .gtr (.bin .or .u8 (.lit (.ofNat 0)) (.bin .or .u8 (.lit (.ofNat 0)) (.bin .or .u8 (.lit (.ofNat 0)) (.bin .or .u8 (.lit (.ofNat 0)) (.bin .or .u8 (.lit (.ofNat 0)) (.ite (.cmp .neq (.bin .and .u64 (.iv 0) (.lit (.ofNat 1))) (.lit (.ofNat 0))) (.lit (.ofNat 1)) (.lit (.ofNat 0)))))))) (.lit (.ofNat 0))) (.lit (.ofNat 1)) (.lit (.ofNat 0)))
def x22_17 : X := .wrap .u8 x22_16
def x22_19 : X := .not (.bv 3)
def x22_36 : X := .or (.bv 3) (.or (.and x22_19 (.bv 5)) (.and x22_19 (.and (.not (.bv 5)) (.cmp .gtr (.bin .or .u8 (.lit (.ofNat 0)) (.bin .or .u8 (.lit (.ofNat 0)) (.bin .or .u8 (.lit (.ofNat 0)) (.bin .or .u8 (.lit (.ofNat 0)) (.bin .or .u8 (.lit (.ofNat 0)) (.ite (.cmp .neq (.bin .and .u64 (.iv 1) (.lit (.ofNat 1))) (.lit (.ofNat 0))) (.lit (.ofNat 1)) (.lit (.ofNat 0)))))))) (.lit (.ofNat 0))))))
def v22 : ST := .tup [.agg [.ci .u8 x22_17, .cb x22_36], .agg [.ci .u8 (.bin .or .u8 (.ite (.cmp .gtr x22_17 (.lit (.ofNat 127))) (.lit (.ofNat 128)) (.lit (.ofNat 0))) (.bin .or .u8 (.ite (.cmp .gtr (.bin .and .u8 (.bin .and .u8 (.bin .xor .u8 (.lit (.ofNat 255)) (.bin .xor .u8 (.iv 2) (.iv 4))) (.bin .xor .u8 (.iv 2) x22_17)) (.lit (.ofNat 128))) (.lit (.ofNat 0))) (.lit (.ofNat 64)) (.lit (.ofNat 0))) (.bin .or .u8 (.ite (.cmp .neq (.bin .and .u64 (.iv 0) (.lit (.ofNat 8))) (.lit (.ofNat 0))) (.lit (.ofNat 8)) (.lit (.ofNat 0))) (.bin .or .u8 (.ite (.cmp .neq (.bin .and .u64 (.iv 0) (.lit (.ofNat 4))) (.lit (.ofNat 0))) (.lit (.ofNat 4)) (.lit (.ofNat 0))) (.bin .or .u8 (.ite (.cmp .eql x22_17 (.lit (.ofNat 0))) (.lit (.ofNat 2)) (.lit (.ofNat 0))) (.ite (.cmp .gtr x22_16 (.lit (.ofNat 255))) (.lit (.ofNat 1)) (.lit (.ofNat 0)))))))), .ci .u8 (.bin .or .u8 (.ite x22_36 (.lit (.ofNat 128)) (.lit (.ofNat 0))) (.bin .or .u8 (.ite x22_36 (.lit (.ofNat 64)) (.lit (.ofNat 0))) (.bin .or .u8 (.ite (.cmp .neq (.bin .and .u64 (.iv 1) (.lit (.ofNat 8))) (.lit (.ofNat 0))) (.lit (.ofNat 8)) (.lit (.ofNat 0))) (.bin .or .u8 (.ite (.cmp .neq (.bin .and .u64 (.iv 1) (.lit (.ofNat 4))) (.lit (.ofNat 0))) (.lit (.ofNat 4)) (.lit (.ofNat 0))) (.bin .or .u8 (.ite x22_36 (.lit (.ofNat 2)) (.lit (.ofNat 0))) (.ite x22_36 (.lit (.ofNat 1)) (.lit (.ofNat 0))))))))]]
def ss22 : List SV := [.agg [.ci .u8 (.iv 0), .ci .u8 (.iv 1)], .agg [.ci .u8 (.iv 2), .cb (.bv 3)], .agg [.ci .u8 (.iv 4), .cb (.bv 5)]]
def ks22 : List LK := [.i .u8, .i .u8, .i .u8, .b, .i .u8, .b]
theorem args22 : argTs Try.prog Try.f22.params.toList 0 = some (ss22, ks22) := by kernel_rfl
theorem tree22 : tree Try.prog 12 (sumsIn sums15) 300 22 ss22 bare 0 ⟨ks22.map LK.rg, []⟩ = .leaf v22 := by kernel_rfl
def sums22 : List Sm := ⟨22, ss22, ks22, v22⟩ :: sums15
theorem sok22 : SumsOk Try.prog sums22 := sums_cons mixed sok15 args22 tree22 (by kernel_rfl)
def v50 : ST := .v (.agg [.ci .u8 (.iv 0), .cb (.bl false)])
def ss50 : List SV := [.c (.ci .u8 (.iv 0))]
def ks50 : List LK := [.i .u8]
theorem args50 : argTs Try.prog Try.f50.params.toList 0 = some (ss50, ks50) := by kernel_rfl
theorem tree50 : tree Try.prog 12 (sumsIn sums22) 300 50 ss50 bare 0 ⟨ks50.map LK.rg, []⟩ = .leaf v50 := by kernel_rfl
def sums50 : List Sm := ⟨50, ss50, ks50, v50⟩ :: sums22
theorem sok50 : SumsOk Try.prog sums50 := sums_cons mixed sok22 args50 tree50 (by kernel_rfl)
def v49 : ST := .v (.agg [.ci .u8 (.bin .xor .u8 (.iv 0) (.iv 2)), .cb (.or (.bv 1) (.and (.not (.bv 1)) (.bv 3)))])
def ss49 : List SV := [.agg [.ci .u8 (.iv 0), .cb (.bv 1)], .agg [.ci .u8 (.iv 2), .cb (.bv 3)]]
def ks49 : List LK := [.i .u8, .b, .i .u8, .b]
theorem args49 : argTs Try.prog Try.f49.params.toList 0 = some (ss49, ks49) := by kernel_rfl
theorem tree49 : tree Try.prog 12 (sumsIn sums50) 300 49 ss49 bare 0 ⟨ks49.map LK.rg, []⟩ = .leaf v49 := by kernel_rfl
def sums49 : List Sm := ⟨49, ss49, ks49, v49⟩ :: sums50
theorem sok49 : SumsOk Try.prog sums49 := sums_cons mixed sok50 args49 tree49 (by kernel_rfl)
def x24_3 : X := .bin .xor .u8 (.iv 4) (.lit (.ofNat 255))
def x24_18 : X := .bin .add .u64 (.bin .add .u64 (.iv 2) x24_3) (.ite (.cmp .gtr (.bin .or .u8 (.lit (.ofNat 0)) (.bin .or .u8 (.lit (.ofNat 0)) (.bin .or .u8 (.lit (.ofNat 0)) (.bin .or .u8 (.lit (.ofNat 0)) (.bin .or .u8 (.lit (.ofNat 0)) (.ite (.cmp .neq (.bin .and .u64 (.iv 0) (.lit (.ofNat 1))) (.lit (.ofNat 0))) (.lit (.ofNat 1)) (.lit (.ofNat 0)))))))) (.lit (.ofNat 0))) (.lit (.ofNat 1)) (.lit (.ofNat 0)))
def x24_19 : X := .wrap .u8 x24_18
def x24_21 : X := .not (.bv 3)
def x24_38 : X := .or (.bv 3) (.or (.and x24_21 (.bv 5)) (.and x24_21 (.and (.not (.bv 5)) (.cmp .gtr (.bin .or .u8 (.lit (.ofNat 0)) (.bin .or .u8 (.lit (.ofNat 0)) (.bin .or .u8 (.lit (.ofNat 0)) (.bin .or .u8 (.lit (.ofNat 0)) (.bin .or .u8 (.lit (.ofNat 0)) (.ite (.cmp .neq (.bin .and .u64 (.iv 1) (.lit (.ofNat 1))) (.lit (.ofNat 0))) (.lit (.ofNat 1)) (.lit (.ofNat 0)))))))) (.lit (.ofNat 0))))))
def v24 : ST := .tup [.agg [.ci .u8 x24_19, .cb x24_38], .agg [.ci .u8 (.bin .or .u8 (.ite (.cmp .gtr x24_19 (.lit (.ofNat 127))) (.lit (.ofNat 128)) (.lit (.ofNat 0))) (.bin .or .u8 (.ite (.cmp .gtr (.bin .and .u8 (.bin .and .u8 (.bin .xor .u8 (.lit (.ofNat 255)) (.bin .xor .u8 (.iv 2) x24_3)) (.bin .xor .u8 (.iv 2) x24_19)) (.lit (.ofNat 128))) (.lit (.ofNat 0))) (.lit (.ofNat 64)) (.lit (.ofNat 0))) (.bin .or .u8 (.ite (.cmp .neq (.bin .and .u64 (.iv 0) (.lit (.ofNat 8))) (.lit (.ofNat 0))) (.lit (.ofNat 8)) (.lit (.ofNat 0))) (.bin .or .u8 (.ite (.cmp .neq (.bin .and .u64 (.iv 0) (.lit (.ofNat 4))) (.lit (.ofNat 0))) (.lit (.ofNat 4)) (.lit (.ofNat 0))) (.bin .or .u8 (.ite (.cmp .eql x24_19 (.lit (.ofNat 0))) (.lit (.ofNat 2)) (.lit (.ofNat 0))) (.ite (.cmp .gtr x24_18 (.lit (.ofNat 255))) (.lit (.ofNat 1)) (.lit (.ofNat 0)))))))), .ci .u8 (.bin .or .u8 (.ite x24_38 (.lit (.ofNat 128)) (.lit (.ofNat 0))) (.bin .or .u8 (.ite x24_38 (.lit (.ofNat 64)) (.lit (.ofNat 0))) (.bin .or .u8 (.ite (.cmp .neq (.bin .and .u64 (.iv 1) (.lit (.ofNat 8))) (.lit (.ofNat 0))) (.lit (.ofNat 8)) (.lit (.ofNat 0))) (.bin .or .u8 (.ite (.cmp .neq (.bin .and .u64 (.iv 1) (.lit (.ofNat 4))) (.lit (.ofNat 0))) (.lit (.ofNat 4)) (.lit (.ofNat 0))) (.bin .or .u8 (.ite x24_38 (.lit (.ofNat 2)) (.lit (.ofNat 0))) (.ite x24_38 (.lit (.ofNat 1)) (.lit (.ofNat 0))))))))]]
def ss24 : List SV := [.agg [.ci .u8 (.iv 0), .ci .u8 (.iv 1)], .agg [.ci .u8 (.iv 2), .cb (.bv 3)], .agg [.ci .u8 (.iv 4), .cb (.bv 5)]]
def ks24 : List LK := [.i .u8, .i .u8, .i .u8, .b, .i .u8, .b]
theorem args24 : argTs Try.prog Try.f24.params.toList 0 = some (ss24, ks24) := by kernel_rfl
theorem tree24 : tree Try.prog 12 (sumsIn sums49) 300 24 ss24 bare 0 ⟨ks24.map LK.rg, []⟩ = .leaf v24 := by kernel_rfl
def sums24 : List Sm := ⟨24, ss24, ks24, v24⟩ :: sums49
theorem sok24 : SumsOk Try.prog sums24 := sums_cons mixed sok49 args24 tree24 (by kernel_rfl)
def x26_2 : X := .bin .sub .u8 (.iv 2) (.iv 4)
def x26_7 : X := .or (.bv 3) (.and (.not (.bv 3)) (.bv 5))
def v26 : ST := .tup [.agg [.ci .u8 x26_2, .cb x26_7], .agg [.ci .u8 (.bin .or .u8 (.ite (.cmp .gtr x26_2 (.lit (.ofNat 127))) (.lit (.ofNat 128)) (.lit (.ofNat 0))) (.bin .or .u8 (.ite (.cmp .neq (.bin .and .u64 (.iv 0) (.lit (.ofNat 64))) (.lit (.ofNat 0))) (.lit (.ofNat 64)) (.lit (.ofNat 0))) (.bin .or .u8 (.ite (.cmp .neq (.bin .and .u64 (.iv 0) (.lit (.ofNat 8))) (.lit (.ofNat 0))) (.lit (.ofNat 8)) (.lit (.ofNat 0))) (.bin .or .u8 (.ite (.cmp .neq (.bin .and .u64 (.iv 0) (.lit (.ofNat 4))) (.lit (.ofNat 0))) (.lit (.ofNat 4)) (.lit (.ofNat 0))) (.bin .or .u8 (.ite (.cmp .eql x26_2 (.lit (.ofNat 0))) (.lit (.ofNat 2)) (.lit (.ofNat 0))) (.ite (.cmp .geq (.iv 2) (.iv 4)) (.lit (.ofNat 1)) (.lit (.ofNat 0)))))))), .ci .u8 (.bin .or .u8 (.ite x26_7 (.lit (.ofNat 128)) (.lit (.ofNat 0))) (.bin .or .u8 (.ite (.cmp .neq (.bin .and .u64 (.iv 1) (.lit (.ofNat 64))) (.lit (.ofNat 0))) (.lit (.ofNat 64)) (.lit (.ofNat 0))) (.bin .or .u8 (.ite (.cmp .neq (.bin .and .u64 (.iv 1) (.lit (.ofNat 8))) (.lit (.ofNat 0))) (.lit (.ofNat 8)) (.lit (.ofNat 0))) (.bin .or .u8 (.ite (.cmp .neq (.bin .and .u64 (.iv 1) (.lit (.ofNat 4))) (.lit (.ofNat 0))) (.lit (.ofNat 4)) (.lit (.ofNat 0))) (.bin .or .u8 (.ite x26_7 (.lit (.ofNat 2)) (.lit (.ofNat 0))) (.ite x26_7 (.lit (.ofNat 1)) (.lit (.ofNat 0))))))))]]
def ss26 : List SV := [.agg [.ci .u8 (.iv 0), .ci .u8 (.iv 1)], .agg [.ci .u8 (.iv 2), .cb (.bv 3)], .agg [.ci .u8 (.iv 4), .cb (.bv 5)]]
def ks26 : List LK := [.i .u8, .i .u8, .i .u8, .b, .i .u8, .b]
theorem args26 : argTs Try.prog Try.f26.params.toList 0 = some (ss26, ks26) := by kernel_rfl
theorem tree26 : tree Try.prog 12 (sumsIn sums24) 300 26 ss26 bare 0 ⟨ks26.map LK.rg, []⟩ = .leaf v26 := by kernel_rfl
def sums26 : List Sm := ⟨26, ss26, ks26, v26⟩ :: sums24
theorem sok26 : SumsOk Try.prog sums26 := sums_cons mixed sok24 args26 tree26 (by kernel_rfl)
def v52 : ST := .v (.agg [.ci .u8 (.ite (.or (.cmp .lss (.iv 2) (.lit (.ofNat 0))) (.cmp .gtr (.iv 2) (.lit (.ofNat 7)))) (.lit (.ofNat 0)) (.bin .and .u8 (.bin .shr .u8 (.iv 0) (.iv 2)) (.lit (.ofNat 1)))), .cb (.bv 1)])
def ss52 : List SV := [.agg [.ci .u8 (.iv 0), .cb (.bv 1)], .c (.ci .i64 (.iv 2))]
def ks52 : List LK := [.i .u8, .b, .i .i64]
theorem args52 : argTs Try.prog Try.f52.params.toList 0 = some (ss52, ks52) := by kernel_rfl
theorem tree52 : tree Try.prog 12 (sumsIn sums26) 300 52 ss52 bare 0 ⟨ks52.map LK.rg, []⟩ = .leaf v52 := by kernel_rfl
def sums52 : List Sm := ⟨52, ss52, ks52, v52⟩ :: sums26
theorem sok52 : SumsOk Try.prog sums52 := sums_cons mixed sok26 args52 tree52 (by kernel_rfl)
def v54 : ST := .tup [.agg [.ci .u8 (.iv 2), .cb (.bv 3)], .agg [.ci .u8 (.bin .or .u8 (.ite (.cmp .gtr (.iv 2) (.lit (.ofNat 127))) (.lit (.ofNat 128)) (.lit (.ofNat 0))) (.bin .or .u8 (.ite (.cmp .neq (.bin .and .u64 (.iv 0) (.lit (.ofNat 64))) (.lit (.ofNat 0))) (.lit (.ofNat 64)) (.lit (.ofNat 0))) (.bin .or .u8 (.ite (.cmp .neq (.bin .and .u64 (.iv 0) (.lit (.ofNat 8))) (.lit (.ofNat 0))) (.lit (.ofNat 8)) (.lit (.ofNat 0))) (.bin .or .u8 (.ite (.cmp .neq (.bin .and .u64 (.iv 0) (.lit (.ofNat 4))) (.lit (.ofNat 0))) (.lit (.ofNat 4)) (.lit (.ofNat 0))) (.bin .or .u8 (.ite (.cmp .eql (.iv 2) (.lit (.ofNat 0))) (.lit (.ofNat 2)) (.lit (.ofNat 0))) (.ite (.cmp .neq (.iv 4) (.lit (.ofNat 0))) (.lit (.ofNat 1)) (.lit (.ofNat 0)))))))), .ci .u8 (.bin .or .u8 (.ite (.bv 3) (.lit (.ofNat 128)) (.lit (.ofNat 0))) (.bin .or .u8 (.ite (.cmp .neq (.bin .and .u64 (.iv 1) (.lit (.ofNat 64))) (.lit (.ofNat 0))) (.lit (.ofNat 64)) (.lit (.ofNat 0))) (.bin .or .u8 (.ite (.cmp .neq (.bin .and .u64 (.iv 1) (.lit (.ofNat 8))) (.lit (.ofNat 0))) (.lit (.ofNat 8)) (.lit (.ofNat 0))) (.bin .or .u8 (.ite (.cmp .neq (.bin .and .u64 (.iv 1) (.lit (.ofNat 4))) (.lit (.ofNat 0))) (.lit (.ofNat 4)) (.lit (.ofNat 0))) (.bin .or .u8 (.ite (.bv 3) (.lit (.ofNat 2)) (.lit (.ofNat 0))) (.ite (.bv 5) (.lit (.ofNat 1)) (.lit (.ofNat 0))))))))]]
def ss54 : List SV := [.agg [.ci .u8 (.iv 0), .ci .u8 (.iv 1)], .agg [.ci .u8 (.iv 2), .cb (.bv 3)], .agg [.ci .u8 (.iv 4), .cb (.bv 5)]]
def ks54 : List LK := [.i .u8, .i .u8, .i .u8, .b, .i .u8, .b]
theorem args54 : argTs Try.prog Try.f54.params.toList 0 = some (ss54, ks54) := by kernel_rfl
theorem tree54 : tree Try.prog 12 (sumsIn sums52) 300 54 ss54 bare 0 ⟨ks54.map LK.rg, []⟩ = .leaf v54 := by kernel_rfl
def sums54 : List Sm := ⟨54, ss54, ks54, v54⟩ :: sums52
theorem sok54 : SumsOk Try.prog sums54 := sums_cons mixed sok52 args54 tree54 (by kernel_rfl)
def x33_2 : X := .bin .shl .u8 (.iv 2) (.lit (.ofNat 1))
def v33 : ST := .tup [.agg [.ci .u8 x33_2, .cb (.bv 3)], .agg [.ci .u8 (.bin .or .u8 (.ite (.cmp .gtr x33_2 (.lit (.ofNat 127))) (.lit (.ofNat 128)) (.lit (.ofNat 0))) (.bin .or .u8 (.ite (.cmp .neq (.bin .and .u64 (.iv 0) (.lit (.ofNat 64))) (.lit (.ofNat 0))) (.lit (.ofNat 64)) (.lit (.ofNat 0))) (.bin .or .u8 (.ite (.cmp .neq (.bin .and .u64 (.iv 0) (.lit (.ofNat 8))) (.lit (.ofNat 0))) (.lit (.ofNat 8)) (.lit (.ofNat 0))) (.bin .or .u8 (.ite (.cmp .neq (.bin .and .u64 (.iv 0) (.lit (.ofNat 4))) (.lit (.ofNat 0))) (.lit (.ofNat 4)) (.lit (.ofNat 0))) (.bin .or .u8 (.ite (.cmp .eql x33_2 (.lit (.ofNat 0))) (.lit (.ofNat 2)) (.lit (.ofNat 0))) (.ite (.cmp .neq (.bin .and .u64 (.iv 2) (.lit (.ofNat 128))) (.lit (.ofNat 0))) (.lit (.ofNat 1)) (.lit (.ofNat 0)))))))), .ci .u8 (.bin .or .u8 (.ite (.bv 3) (.lit (.ofNat 128)) (.lit (.ofNat 0))) (.bin .or .u8 (.ite (.cmp .neq (.bin .and .u64 (.iv 1) (.lit (.ofNat 64))) (.lit (.ofNat 0))) (.lit (.ofNat 64)) (.lit (.ofNat 0))) (.bin .or .u8 (.ite (.cmp .neq (.bin .and .u64 (.iv 1) (.lit (.ofNat 8))) (.lit (.ofNat 0))) (.lit (.ofNat 8)) (.lit (.ofNat 0))) (.bin .or .u8 (.ite (.cmp .neq (.bin .and .u64 (.iv 1) (.lit (.ofNat 4))) (.lit (.ofNat 0))) (.lit (.ofNat 4)) (.lit (.ofNat 0))) (.bin .or .u8 (.ite (.bv 3) (.lit (.ofNat 2)) (.lit (.ofNat 0))) (.ite (.bv 3) (.lit (.ofNat 1)) (.lit (.ofNat 0))))))))]]
def ss33 : List SV := [.agg [.ci .u8 (.iv 0), .ci .u8 (.iv 1)], .agg [.ci .u8 (.iv 2), .cb (.bv 3)]]
def ks33 : List LK := [.i .u8, .i .u8, .i .u8, .b]
theorem args33 : argTs Try.prog Try.f33.params.toList 0 = some (ss33, ks33) := by kernel_rfl
theorem tree33 : tree Try.prog 12 (sumsIn sums54) 300 33 ss33 bare 0 ⟨ks33.map LK.rg, []⟩ = .leaf v33 := by kernel_rfl
def sums33 : List Sm := ⟨33, ss33, ks33, v33⟩ :: sums54
theorem sok33 : SumsOk Try.prog sums33 := sums_cons mixed sok54 args33 tree33 (by kernel_rfl)
def x35_2 : X := .bin .shr .u8 (.iv 2) (.lit (.ofNat 1))
def v35 : ST := .tup [.agg [.ci .u8 x35_2, .cb (.bv 3)], .agg [.ci .u8 (.bin .or .u8 (.lit (.ofNat 0)) (.bin .or .u8 (.ite (.cmp .neq (.bin .and .u64 (.iv 0) (.lit (.ofNat 64))) (.lit (.ofNat 0))) (.lit (.ofNat 64)) (.lit (.ofNat 0))) (.bin .or .u8 (.ite (.cmp .neq (.bin .and .u64 (.iv 0) (.lit (.ofNat 8))) (.lit (.ofNat 0))) (.lit (.ofNat 8)) (.lit (.ofNat 0))) (.bin .or .u8 (.ite (.cmp .neq (.bin .and .u64 (.iv 0) (.lit (.ofNat 4))) (.lit (.ofNat 0))) (.lit (.ofNat 4)) (.lit (.ofNat 0))) (.bin .or .u8 (.ite (.cmp .eql x35_2 (.lit (.ofNat 0))) (.lit (.ofNat 2)) (.lit (.ofNat 0))) (.ite (.cmp .neq (.bin .and .u64 (.iv 2) (.lit (.ofNat 1))) (.lit (.ofNat 0))) (.lit (.ofNat 1)) (.lit (.ofNat 0)))))))), .ci .u8 (.bin .or .u8 (.ite (.bv 3) (.lit (.ofNat 128)) (.lit (.ofNat 0))) (.bin .or .u8 (.ite (.cmp .neq (.bin .and .u64 (.iv 1) (.lit (.ofNat 64))) (.lit (.ofNat 0))) (.lit (.ofNat 64)) (.lit (.ofNat 0))) (.bin .or .u8 (.ite (.cmp .neq (.bin .and .u64 (.iv 1) (.lit (.ofNat 8))) (.lit (.ofNat 0))) (.lit (.ofNat 8)) (.lit (.ofNat 0))) (.bin .or .u8 (.ite (.cmp .neq (.bin .and .u64 (.iv 1) (.lit (.ofNat 4))) (.lit (.ofNat 0))) (.lit (.ofNat 4)) (.lit (.ofNat 0))) (.bin .or .u8 (.ite (.bv 3) (.lit (.ofNat 2)) (.lit (.ofNat 0))) (.ite (.bv 3) (.lit (.ofNat 1)) (.lit (.ofNat 0))))))))]]
def ss35 : List SV := [.agg [.ci .u8 (.iv 0), .ci .u8 (.iv 1)], .agg [.ci .u8 (.iv 2), .cb (.bv 3)]]
def ks35 : List LK := [.i .u8, .i .u8, .i .u8, .b]
theorem args35 : argTs Try.prog Try.f35.params.toList 0 = some (ss35, ks35) := by kernel_rfl
theorem tree35 : tree Try.prog 12 (sumsIn sums33) 300 35 ss35 bare 0 ⟨ks35.map LK.rg, []⟩ = .leaf v35 := by kernel_rfl
def sums35 : List Sm := ⟨35, ss35, ks35, v35⟩ :: sums33
theorem sok35 : SumsOk Try.prog sums35 := sums_cons mixed sok33 args35 tree35 (by kernel_rfl)
def x31_15 : X := .bin .or .u8 (.bin .shl .u8 (.iv 2) (.lit (.ofNat 1))) (.ite (.cmp .gtr (.bin .or .u8 (.lit (.ofNat 0)) (.bin .or .u8 (.lit (.ofNat 0)) (.bin .or .u8 (.lit (.ofNat 0)) (.bin .or .u8 (.lit (.ofNat 0)) (.bin .or .u8 (.lit (.ofNat 0)) (.ite (.cmp .neq (.bin .and .u64 (.iv 0) (.lit (.ofNat 1))) (.lit (.ofNat 0))) (.lit (.ofNat 1)) (.lit (.ofNat 0)))))))) (.lit (.ofNat 0))) (.lit (.ofNat 1)) (.lit (.ofNat 0)))
def x31_29 : X := .or (.bv 3) (.and (.not (.bv 3)) (.cmp .gtr (.bin .or .u8 (.lit (.ofNat 0)) (.bin .or .u8 (.lit (.ofNat 0)) (.bin .or .u8 (.lit (.ofNat 0)) (.bin .or .u8 (.lit (.ofNat 0)) (.bin .or .u8 (.lit (.ofNat 0)) (.ite (.cmp .neq (.bin .and .u64 (.iv 1) (.lit (.ofNat 1))) (.lit (.ofNat 0))) (.lit (.ofNat 1)) (.lit (.ofNat 0)))))))) (.lit (.ofNat 0))))
def v31 : ST := .tup [.agg [.ci .u8 x31_15, .cb x31_29], .agg [.ci .u8 (.bin .or .u8 (.ite (.cmp .gtr x31_15 (.lit (.ofNat 127))) (.lit (.ofNat 128)) (.lit (.ofNat 0))) (.bin .or .u8 (.ite (.cmp .neq (.bin .and .u64 (.iv 0) (.lit (.ofNat 64))) (.lit (.ofNat 0))) (.lit (.ofNat 64)) (.lit (.ofNat 0))) (.bin .or .u8 (.ite (.cmp .neq (.bin .and .u64 (.iv 0) (.lit (.ofNat 8))) (.lit (.ofNat 0))) (.lit (.ofNat 8)) (.lit (.ofNat 0))) (.bin .or .u8 (.ite (.cmp .neq (.bin .and .u64 (.iv 0) (.lit (.ofNat 4))) (.lit (.ofNat 0))) (.lit (.ofNat 4)) (.lit (.ofNat 0))) (.bin .or .u8 (.ite (.cmp .eql x31_15 (.lit (.ofNat 0))) (.lit (.ofNat 2)) (.lit (.ofNat 0))) (.ite (.cmp .neq (.bin .and .u64 (.iv 2) (.lit (.ofNat 128))) (.lit (.ofNat 0))) (.lit (.ofNat 1)) (.lit (.ofNat 0)))))))), .ci .u8 (.bin .or .u8 (.ite x31_29 (.lit (.ofNat 128)) (.lit (.ofNat 0))) (.bin .or .u8 (.ite (.cmp .neq (.bin .and .u64 (.iv 1) (.lit (.ofNat 64))) (.lit (.ofNat 0))) (.lit (.ofNat 64)) (.lit (.ofNat 0))) (.bin .or .u8 (.ite (.cmp .neq (.bin .and .u64 (.iv 1) (.lit (.ofNat 8))) (.lit (.ofNat 0))) (.lit (.ofNat 8)) (.lit (.ofNat 0))) (.bin .or .u8 (.ite (.cmp .neq (.bin .and .u64 (.iv 1) (.lit (.ofNat 4))) (.lit (.ofNat 0))) (.lit (.ofNat 4)) (.lit (.ofNat 0))) (.bin .or .u8 (.ite x31_29 (.lit (.ofNat 2)) (.lit (.ofNat 0))) (.ite (.bv 3) (.lit (.ofNat 1)) (.lit (.ofNat 0))))))))]]
def ss31 : List SV := [.agg [.ci .u8 (.iv 0), .ci .u8 (.iv 1)], .agg [.ci .u8 (.iv 2), .cb (.bv 3)]]
def ks31 : List LK := [.i .u8, .i .u8, .i .u8, .b]
theorem args31 : argTs Try.prog Try.f31.params.toList 0 = some (ss31, ks31) := by kernel_rfl
theorem tree31 : tree Try.prog 12 (sumsIn sums35) 300 31 ss31 bare 0 ⟨ks31.map LK.rg, []⟩ = .leaf v31 := by kernel_rfl
def sums31 : List Sm := ⟨31, ss31, ks31, v31⟩ :: sums35
theorem sok31 : SumsOk Try.prog sums31 := sums_cons mixed sok35 args31 tree31 (by kernel_rfl)
def x32_17 : X := .bin .or .u8 (.bin .shr .u8 (.iv 2) (.lit (.ofNat 1))) (.bin .shl .u8 (.ite (.cmp .gtr (.bin .or .u8 (.lit (.ofNat 0)) (.bin .or .u8 (.lit (.ofNat 0)) (.bin .or .u8 (.lit (.ofNat 0)) (.bin .or .u8 (.lit (.ofNat 0)) (.bin .or .u8 (.lit (.ofNat 0)) (.ite (.cmp .neq (.bin .and .u64 (.iv 0) (.lit (.ofNat 1))) (.lit (.ofNat 0))) (.lit (.ofNat 1)) (.lit (.ofNat 0)))))))) (.lit (.ofNat 0))) (.lit (.ofNat 1)) (.lit (.ofNat 0))) (.lit (.ofNat 7)))
def x32_31 : X := .or (.bv 3) (.and (.not (.bv 3)) (.cmp .gtr (.bin .or .u8 (.lit (.ofNat 0)) (.bin .or .u8 (.lit (.ofNat 0)) (.bin .or .u8 (.lit (.ofNat 0)) (.bin .or .u8 (.lit (.ofNat 0)) (.bin .or .u8 (.lit (.ofNat 0)) (.ite (.cmp .neq (.bin .and .u64 (.iv 1) (.lit (.ofNat 1))) (.lit (.ofNat 0))) (.lit (.ofNat 1)) (.lit (.ofNat 0)))))))) (.lit (.ofNat 0))))
def v32 : ST := .tup [.agg [.ci .u8 x32_17, .cb x32_31], .agg [.ci .u8 (.bin .or .u8 (.ite (.cmp .gtr x32_17 (.lit (.ofNat 127))) (.lit (.ofNat 128)) (.lit (.ofNat 0))) (.bin .or .u8 (.ite (.cmp .neq (.bin .and .u64 (.iv 0) (.lit (.ofNat 64))) (.lit (.ofNat 0))) (.lit (.ofNat 64)) (.lit (.ofNat 0))) (.bin .or .u8 (.ite (.cmp .neq (.bin .and .u64 (.iv 0) (.lit (.ofNat 8))) (.lit (.ofNat 0))) (.lit (.ofNat 8)) (.lit (.ofNat 0))) (.bin .or .u8 (.ite (.cmp .neq (.bin .and .u64 (.iv 0) (.lit (.ofNat 4))) (.lit (.ofNat 0))) (.lit (.ofNat 4)) (.lit (.ofNat 0))) (.bin .or .u8 (.ite (.cmp .eql x32_17 (.lit (.ofNat 0))) (.lit (.ofNat 2)) (.lit (.ofNat 0))) (.ite (.cmp .neq (.bin .and .u64 (.iv 2) (.lit (.ofNat 1))) (.lit (.ofNat 0))) (.lit (.ofNat 1)) (.lit (.ofNat 0)))))))), .ci .u8 (.bin .or .u8 (.ite x32_31 (.lit (.ofNat 128)) (.lit (.ofNat 0))) (.bin .or .u8 (.ite (.cmp .neq (.bin .and .u64 (.iv 1) (.lit (.ofNat 64))) (.lit (.ofNat 0))) (.lit (.ofNat 64)) (.lit (.ofNat 0))) (.bin .or .u8 (.ite (.cmp .neq (.bin .and .u64 (.iv 1) (.lit (.ofNat 8))) (.lit (.ofNat 0))) (.lit (.ofNat 8)) (.lit (.ofNat 0))) (.bin .or .u8 (.ite (.cmp .neq (.bin .and .u64 (.iv 1) (.lit (.ofNat 4))) (.lit (.ofNat 0))) (.lit (.ofNat 4)) (.lit (.ofNat 0))) (.bin .or .u8 (.ite x32_31 (.lit (.ofNat 2)) (.lit (.ofNat 0))) (.ite (.bv 3) (.lit (.ofNat 1)) (.lit (.ofNat 0))))))))]]
def ss32 : List SV := [.agg [.ci .u8 (.iv 0), .ci .u8 (.iv 1)], .agg [.ci .u8 (.iv 2), .cb (.bv 3)]]
def ks32 : List LK := [.i .u8, .i .u8, .i .u8, .b]
theorem args32 : argTs Try.prog Try.f32.params.toList 0 = some (ss32, ks32) := by kernel_rfl
theorem tree32 : tree Try.prog 12 (sumsIn sums31) 300 32 ss32 bare 0 ⟨ks32.map LK.rg, []⟩ = .leaf v32 := by kernel_rfl
def sums32 : List Sm := ⟨32, ss32, ks32, v32⟩ :: sums31
theorem sok32 : SumsOk Try.prog sums32 := sums_cons mixed sok31 args32 tree32 (by kernel_rfl)
def v51 : ST := .v (.agg [.ci .u8 (.bin .and .u8 (.iv 0) (.iv 2)), .cb (.or (.bv 1) (.and (.not (.bv 1)) (.bv 3)))])
def ss51 : List SV := [.agg [.ci .u8 (.iv 0), .cb (.bv 1)], .agg [.ci .u8 (.iv 2), .cb (.bv 3)]]
def ks51 : List LK := [.i .u8, .b, .i .u8, .b]
theorem args51 : argTs Try.prog Try.f51.params.toList 0 = some (ss51, ks51) := by kernel_rfl
theorem tree51 : tree Try.prog 12 (sumsIn sums32) 300 51 ss51 bare 0 ⟨ks51.map LK.rg, []⟩ = .leaf v51 := by kernel_rfl
def sums51 : List Sm := ⟨51, ss51, ks51, v51⟩ :: sums32
theorem sok51 : SumsOk Try.prog sums51 := sums_cons mixed sok32 args51 tree51 (by kernel_rfl)
def x37_19 : X := .bin .or .u8 (.bin .shr .u8 (.bin .and .u8 (.iv 2) (.iv 4)) (.lit (.ofNat 1))) (.bin .shl .u8 (.ite (.cmp .gtr (.bin .or .u8 (.lit (.ofNat 0)) (.bin .or .u8 (.lit (.ofNat 0)) (.bin .or .u8 (.lit (.ofNat 0)) (.bin .or .u8 (.lit (.ofNat 0)) (.bin .or .u8 (.lit (.ofNat 0)) (.ite (.cmp .neq (.bin .and .u64 (.iv 0) (.lit (.ofNat 1))) (.lit (.ofNat 0))) (.lit (.ofNat 1)) (.lit (.ofNat 0)))))))) (.lit (.ofNat 0))) (.lit (.ofNat 1)) (.lit (.ofNat 0))) (.lit (.ofNat 7)))
def x37_24 : X := .or (.bv 3) (.and (.not (.bv 3)) (.bv 5))
def x37_37 : X := .or x37_24 (.and (.not x37_24) (.cmp .gtr (.bin .or .u8 (.lit (.ofNat 0)) (.bin .or .u8 (.lit (.ofNat 0)) (.bin .or .u8 (.lit (.ofNat 0)) (.bin .or .u8 (.lit (.ofNat 0)) (.bin .or .u8 (.lit (.ofNat 0)) (.ite (.cmp .neq (.bin .and .u64 (.iv 1) (.lit (.ofNat 1))) (.lit (.ofNat 0))) (.lit (.ofNat 1)) (.lit (.ofNat 0)))))))) (.lit (.ofNat 0))))
def v37 : ST := .tup [.agg [.ci .u8 x37_19, .cb x37_37], .agg [.ci .u8 (.bin .or .u8 (.ite (.cmp .gtr x37_19 (.lit (.ofNat 127))) (.lit (.ofNat 128)) (.lit (.ofNat 0))) (.bin .or .u8 (.ite (.cmp .neq (.bin .xor .u8 (.bin .and .u8 (.bin .shr .u8 x37_19 (.lit (.ofNat 6))) (.lit (.ofNat 1))) (.bin .and .u8 (.bin .shr .u8 x37_19 (.lit (.ofNat 5))) (.lit (.ofNat 1)))) (.lit (.ofNat 0))) (.lit (.ofNat 64)) (.lit (.ofNat 0))) (.bin .or .u8 (.ite (.cmp .neq (.bin .and .u64 (.iv 0) (.lit (.ofNat 8))) (.lit (.ofNat 0))) (.lit (.ofNat 8)) (.lit (.ofNat 0))) (.bin .or .u8 (.ite (.cmp .neq (.bin .and .u64 (.iv 0) (.lit (.ofNat 4))) (.lit (.ofNat 0))) (.lit (.ofNat 4)) (.lit (.ofNat 0))) (.bin .or .u8 (.ite (.cmp .eql x37_19 (.lit (.ofNat 0))) (.lit (.ofNat 2)) (.lit (.ofNat 0))) (.ite (.and (.cmp .neq (.bin .and .u64 (.iv 2) (.lit (.ofNat 128))) (.lit (.ofNat 0))) (.cmp .neq (.bin .and .u64 (.iv 4) (.lit (.ofNat 128))) (.lit (.ofNat 0)))) (.lit (.ofNat 1)) (.lit (.ofNat 0)))))))), .ci .u8 (.bin .or .u8 (.ite x37_37 (.lit (.ofNat 128)) (.lit (.ofNat 0))) (.bin .or .u8 (.ite (.or x37_37 (.and (.not x37_37) x37_37)) (.lit (.ofNat 64)) (.lit (.ofNat 0))) (.bin .or .u8 (.ite (.cmp .neq (.bin .and .u64 (.iv 1) (.lit (.ofNat 8))) (.lit (.ofNat 0))) (.lit (.ofNat 8)) (.lit (.ofNat 0))) (.bin .or .u8 (.ite (.cmp .neq (.bin .and .u64 (.iv 1) (.lit (.ofNat 4))) (.lit (.ofNat 0))) (.lit (.ofNat 4)) (.lit (.ofNat 0))) (.bin .or .u8 (.ite x37_37 (.lit (.ofNat 2)) (.lit (.ofNat 0))) (.ite x37_37 (.lit (.ofNat 1)) (.lit (.ofNat 0))))))))]]
def ss37 : List SV := [.agg [.ci .u8 (.iv 0), .ci .u8 (.iv 1)], .agg [.ci .u8 (.iv 2), .cb (.bv 3)], .agg [.ci .u8 (.iv 4), .cb (.bv 5)]]
def ks37 : List LK := [.i .u8, .i .u8, .i .u8, .b, .i .u8, .b]
theorem args37 : argTs Try.prog Try.f37.params.toList 0 = some (ss37, ks37) := by kernel_rfl
theorem tree37 : tree Try.prog 12 (sumsIn sums51) 300 37 ss37 bare 0 ⟨ks37.map LK.rg, []⟩ = .leaf v37 := by kernel_rfl
def sums37 : List Sm := ⟨37, ss37, ks37, v37⟩ :: sums51
theorem sok37 : SumsOk Try.prog sums37 := sums_cons mixed sok51 args37 tree37 (by kernel_rfl)
def v17 : ST := .v (.agg [.ci .u8 (.bin .or .u8 (.ite (.cmp .neq (.bin .and .u64 (.iv 0) (.lit (.ofNat 128))) (.lit (.ofNat 0))) (.lit (.ofNat 128)) (.lit (.ofNat 0))) (.bin .or .u8 (.ite (.cmp .neq (.bin .and .u64 (.iv 0) (.lit (.ofNat 64))) (.lit (.ofNat 0))) (.lit (.ofNat 64)) (.lit (.ofNat 0))) (.bin .or .u8 (.lit (.ofNat 32)) (.bin .or .u8 (.ite (.bv 2) (.lit (.ofNat 16)) (.lit (.ofNat 0))) (.bin .or .u8 (.ite (.cmp .neq (.bin .and .u64 (.iv 0) (.lit (.ofNat 8))) (.lit (.ofNat 0))) (.lit (.ofNat 8)) (.lit (.ofNat 0))) (.bin .or .u8 (.ite (.cmp .neq (.bin .and .u64 (.iv 0) (.lit (.ofNat 4))) (.lit (.ofNat 0))) (.lit (.ofNat 4)) (.lit (.ofNat 0))) (.bin .or .u8 (.ite (.cmp .neq (.bin .and .u64 (.iv 0) (.lit (.ofNat 2))) (.lit (.ofNat 0))) (.lit (.ofNat 2)) (.lit (.ofNat 0))) (.ite (.cmp .neq (.bin .and .u64 (.iv 0) (.lit (.ofNat 1))) (.lit (.ofNat 0))) (.lit (.ofNat 1)) (.lit (.ofNat 0)))))))))), .cb (.or (.cmp .neq (.bin .and .u64 (.iv 1) (.lit (.ofNat 128))) (.lit (.ofNat 0))) (.or (.cmp .neq (.bin .and .u64 (.iv 1) (.lit (.ofNat 64))) (.lit (.ofNat 0))) (.or (.cmp .neq (.bin .and .u64 (.iv 1) (.lit (.ofNat 8))) (.lit (.ofNat 0))) (.or (.cmp .neq (.bin .and .u64 (.iv 1) (.lit (.ofNat 4))) (.lit (.ofNat 0))) (.or (.cmp .neq (.bin .and .u64 (.iv 1) (.lit (.ofNat 2))) (.lit (.ofNat 0))) (.cmp .neq (.bin .and .u64 (.iv 1) (.lit (.ofNat 1))) (.lit (.ofNat 0))))))))])
def ss17 : List SV := [.agg [.ci .u8 (.iv 0), .ci .u8 (.iv 1)], .c (.cb (.bv 2))]
def ks17 : List LK := [.i .u8, .i .u8, .b]
theorem args17 : argTs Try.prog Try.f17.params.toList 0 = some (ss17, ks17) := by kernel_rfl
theorem tree17 : (tree Try.prog 12 (sumsIn sums37) 300 17 ss17 bare 0 ⟨ks17.map LK.rg, []⟩).small ⟨ks17.map LK.rg, []⟩ = some v17 := by kernel_rfl
def sums17 : List Sm := ⟨17, ss17, ks17, v17⟩ :: sums37
theorem sok17 : SumsOk Try.prog sums17 := sums_norm mixed sok37 args17 tree17 (by kernel_rfl)
def v19 : ST := .v (.agg [.ci .u8 (.bin .and .u8 (.iv 0) (.lit (.ofNat 207))), .ci .u8 (.ite (.bv 1) (.lit (.ofNat 207)) (.lit (.ofNat 0)))])
def ss19 : List SV := [.agg [.ci .u8 (.iv 0), .cb (.bv 1)]]
def ks19 : List LK := [.i .u8, .b]
theorem args19 : argTs Try.prog Try.f19.params.toList 0 = some (ss19, ks19) := by kernel_rfl
theorem tree19 : tree Try.prog 12 (sumsIn sums17) 300 19 ss19 bare 0 ⟨ks19.map LK.rg, []⟩ = .leaf v19 := by kernel_rfl
def sums19 : List Sm := ⟨19, ss19, ks19, v19⟩ :: sums17
theorem sok19 : SumsOk Try.prog sums19 := sums_cons mixed sok17 args19 tree19 (by kernel_rfl)
def x28_2 : X := .bin .sub .u8 (.iv 2) (.iv 4)
def x28_36 : X := .or (.bv 3) (.and (.not (.bv 3)) (.bv 5))
def v28 : ST := .v (.agg [.ci .u8 (.bin .or .u8 (.ite (.cmp .gtr x28_2 (.lit (.ofNat 127))) (.lit (.ofNat 128)) (.lit (.ofNat 0))) (.bin .or .u8 (.ite (.cmp .neq (.bin .and .u64 (.iv 0) (.lit (.ofNat 64))) (.lit (.ofNat 0))) (.lit (.ofNat 64)) (.lit (.ofNat 0))) (.bin .or .u8 (.ite (.cmp .neq (.bin .and .u64 (.iv 0) (.lit (.ofNat 8))) (.lit (.ofNat 0))) (.lit (.ofNat 8)) (.lit (.ofNat 0))) (.bin .or .u8 (.ite (.cmp .neq (.bin .and .u64 (.iv 0) (.lit (.ofNat 4))) (.lit (.ofNat 0))) (.lit (.ofNat 4)) (.lit (.ofNat 0))) (.bin .or .u8 (.ite (.cmp .eql x28_2 (.lit (.ofNat 0))) (.lit (.ofNat 2)) (.lit (.ofNat 0))) (.ite (.cmp .geq (.iv 2) (.iv 4)) (.lit (.ofNat 1)) (.lit (.ofNat 0)))))))), .ci .u8 (.bin .or .u8 (.ite x28_36 (.lit (.ofNat 128)) (.lit (.ofNat 0))) (.bin .or .u8 (.ite (.cmp .neq (.bin .and .u64 (.iv 1) (.lit (.ofNat 64))) (.lit (.ofNat 0))) (.lit (.ofNat 64)) (.lit (.ofNat 0))) (.bin .or .u8 (.ite (.cmp .neq (.bin .and .u64 (.iv 1) (.lit (.ofNat 8))) (.lit (.ofNat 0))) (.lit (.ofNat 8)) (.lit (.ofNat 0))) (.bin .or .u8 (.ite (.cmp .neq (.bin .and .u64 (.iv 1) (.lit (.ofNat 4))) (.lit (.ofNat 0))) (.lit (.ofNat 4)) (.lit (.ofNat 0))) (.bin .or .u8 (.ite x28_36 (.lit (.ofNat 2)) (.lit (.ofNat 0))) (.ite x28_36 (.lit (.ofNat 1)) (.lit (.ofNat 0))))))))])
def ss28 : List SV := [.agg [.ci .u8 (.iv 0), .ci .u8 (.iv 1)], .agg [.ci .u8 (.iv 2), .cb (.bv 3)], .agg [.ci .u8 (.iv 4), .cb (.bv 5)]]
def ks28 : List LK := [.i .u8, .i .u8, .i .u8, .b, .i .u8, .b]
theorem args28 : argTs Try.prog Try.f28.params.toList 0 = some (ss28, ks28) := by kernel_rfl
theorem tree28 : tree Try.prog 12 (sumsIn sums19) 300 28 ss28 bare 0 ⟨ks28.map LK.rg, []⟩ = .leaf v28 := by kernel_rfl
def sums28 : List Sm := ⟨28, ss28, ks28, v28⟩ :: sums19
theorem sok28 : SumsOk Try.prog sums28 := sums_cons mixed sok19 args28 tree28 (by kernel_rfl)
def v29 : ST := .v (.agg [.ci .u8 (.bin .or .u8 (.ite (.cmp .neq (.bin .and .u64 (.iv 4) (.lit (.ofNat 128))) (.lit (.ofNat 0))) (.lit (.ofNat 128)) (.lit (.ofNat 0))) (.bin .or .u8 (.ite (.cmp .neq (.bin .and .u64 (.iv 4) (.lit (.ofNat 64))) (.lit (.ofNat 0))) (.lit (.ofNat 64)) (.lit (.ofNat 0))) (.bin .or .u8 (.ite (.cmp .neq (.bin .and .u64 (.iv 0) (.lit (.ofNat 8))) (.lit (.ofNat 0))) (.lit (.ofNat 8)) (.lit (.ofNat 0))) (.bin .or .u8 (.ite (.cmp .neq (.bin .and .u64 (.iv 0) (.lit (.ofNat 4))) (.lit (.ofNat 0))) (.lit (.ofNat 4)) (.lit (.ofNat 0))) (.bin .or .u8 (.ite (.cmp .eql (.bin .and .u8 (.iv 2) (.iv 4)) (.lit (.ofNat 0))) (.lit (.ofNat 2)) (.lit (.ofNat 0))) (.ite (.cmp .neq (.bin .and .u64 (.iv 0) (.lit (.ofNat 1))) (.lit (.ofNat 0))) (.lit (.ofNat 1)) (.lit (.ofNat 0)))))))), .ci .u8 (.bin .or .u8 (.ite (.bv 5) (.lit (.ofNat 128)) (.lit (.ofNat 0))) (.bin .or .u8 (.ite (.bv 5) (.lit (.ofNat 64)) (.lit (.ofNat 0))) (.bin .or .u8 (.ite (.cmp .neq (.bin .and .u64 (.iv 1) (.lit (.ofNat 8))) (.lit (.ofNat 0))) (.lit (.ofNat 8)) (.lit (.ofNat 0))) (.bin .or .u8 (.ite (.cmp .neq (.bin .and .u64 (.iv 1) (.lit (.ofNat 4))) (.lit (.ofNat 0))) (.lit (.ofNat 4)) (.lit (.ofNat 0))) (.bin .or .u8 (.ite (.or (.bv 3) (.and (.not (.bv 3)) (.bv 5))) (.lit (.ofNat 2)) (.lit (.ofNat 0))) (.ite (.cmp .neq (.bin .and .u64 (.iv 1) (.lit (.ofNat 1))) (.lit (.ofNat 0))) (.lit (.ofNat 1)) (.lit (.ofNat 0))))))))])
def ss29 : List SV := [.agg [.ci .u8 (.iv 0), .ci .u8 (.iv 1)], .agg [.ci .u8 (.iv 2), .cb (.bv 3)], .agg [.ci .u8 (.iv 4), .cb (.bv 5)]]
def ks29 : List LK := [.i .u8, .i .u8, .i .u8, .b, .i .u8, .b]
theorem args29 : argTs Try.prog Try.f29.params.toList 0 = some (ss29, ks29) := by kernel_rfl
theorem tree29 : tree Try.prog 12 (sumsIn sums28) 300 29 ss29 bare 0 ⟨ks29.map LK.rg, []⟩ = .leaf v29 := by kernel_rfl
def sums29 : List Sm := ⟨29, ss29, ks29, v29⟩ :: sums28
theorem sok29 : SumsOk Try.prog sums29 := sums_cons mixed sok28 args29 tree29 (by kernel_rfl)
def v21 : ST := .v (.c (.cb (.bl true)))
def ss21 : List SV := []
def ks21 : List LK := []
theorem args21 : argTs Try.prog Try.f21.params.toList 0 = some (ss21, ks21) := by kernel_rfl
theorem tree21 : tree Try.prog 12 (sumsIn sums29) 300 21 ss21 bare 0 ⟨ks21.map LK.rg, []⟩ = .leaf v21 := by kernel_rfl
def sums21 : List Sm := ⟨21, ss21, ks21, v21⟩ :: sums29
theorem sok21 : SumsOk Try.prog sums21 := sums_cons mixed sok29 args21 tree21 (by kernel_rfl)
def ss8 : List SV := [.agg [.ci .u8 (.iv 0), .ci .u8 (.iv 1), .ci .u8 (.iv 2), .cb (.bv 3), .ci .u8 (.iv 4), .cb (.bv 5), .ci .u8 (.iv 6), .cb (.bv 7)]]
def ks8 : List LK := [.i .u8, .i .u8, .i .u8, .b, .i .u8, .b, .i .u8, .b]
def rs8 : List RowV := []
theorem args8 : argRs Try.prog Try.f8.params.toList 0 0 = some (ss8, ks8, rs8) := by kernel_rfl
def T (K : Known) : Prop := (treeS Try.prog 0 (sumsIn sums21) 300 8 ss8 bare 6 K).prove 300 1000 K = true
def V (K : Known) : Prop := X.prove 20 60 K (.bl false) = true
def K_0 : Known := addRows rs8 ⟨ks8.map LK.rg, []⟩
theorem leaf_0 : T K_0 := by unfold T; kernel_rfl
theorem plan8 : ∀ ρ, (addRows rs8 ⟨ks8.map LK.rg, []⟩).ok ρ → ∃ K d, K.ok ρ ∧ (treeS Try.prog 0 (sumsIn sums21) 300 8 ss8 bare d K).prove 300 1000 K = true := fun _ h => ⟨K_0, 6, h, leaf_0⟩

def zeros : Env := ⟨fun _ => 0, fun _ => false, fun _ _ => 0, fun _ _ => true, fun _ => .bool false, fun _ => ⟨⟨0, 0, none⟩, .cells #[] 0 (0, 0)⟩⟩
set_option maxRecDepth 100000 in
theorem lifted8 (os : Os) (started : os.Started) (H : Type) (enc : TypeId × Value → H) :
    ReturnsInHanded {} Try.checked os 8 .any (Rows.aluErasedSpec.pre6 enc Try.prog Try.f8 Rows.aluErasedRow.domain false) (Rows.aluErasedSpec.post enc Try.prog Try.f8 false true false false) := by
  refine returnsInHanded_of_change (C := Try.checked) own started (by kernel_rfl) Try.func8
    (ChangeSpec.witness6 (enc := enc) (C := Try.checked) false ⟨#[], (ss8.map (SV.den zeros fun _ => 0)).toArray, []⟩ 8 (by kernel_rfl) (by kernel_rfl) (by kernel_rfl) (by kernel_rfl)) ?_
  intro W base args ds gs before hval0 hW _ _
  have hval : ∀ (j : Nat) t v, Try.f8.params[j]? = some t → args[j]? = some v → Value.okWide Try.prog W .any base t v := hval0
  have hW' := hW
  obtain ⟨p, q, hA0, hV, rfl, _, _⟩ := hW
  have hA : DataW.TrodAll enc Try.prog W 0 (fun _ => true) true Try.f8.params.toList args.toList ds p := hA0
  obtain ⟨rfl, rfl⟩ := trodVars_none hV
  have hA1 := hA
  rw [Try.params8] at hA1
  obtain ⟨v0, d0, _, rfl, _⟩ := trodAll_one hA1
  refine (rows_planS (r := .any) (base := base) mixed sok21 args8 plan8 (fun j t v ht hv => hval j t v (by simpa using ht) hv) hA).mono fun e W' ⟨⟨v, he, hv⟩, hb⟩ => ?_
  subst hv
  subst he
  exact ⟨_, rfl, law_post (tb := 4) laid rfl (by rw [Try.params8]; intro t ht; simp at ht; first | (subst ht; exact ⟨by kernel_rfl, of_decide_eq_true (by kernel_rfl)⟩) | (rcases ht with rfl | rfl <;> exact ⟨by kernel_rfl, of_decide_eq_true (by kernel_rfl)⟩) | (rcases ht with rfl | rfl | rfl <;> exact ⟨by kernel_rfl, of_decide_eq_true (by kernel_rfl)⟩)) rfl Try.underlying4 hW' hA hb ⟨rfl, rfl, rfl⟩⟩

theorem aluErased_holds : Rows.AluErasedSaid :=
  OpenClaim.holds_of_wide 8 Try.f8 rfl rfl rfl rfl rfl rfl rfl ⟨rfl, rfl, rfl, rfl, rfl⟩ rfl rfl rfl rfl rfl (by kernel_rfl) Try.func8 (by kernel_rfl)
    (of_decide_eq_true (by kernel_rfl)) (by unfold Func.isWrapper; first | (rw [if_pos (by decide +kernel)]; kernel_rfl) | (rw [if_neg (by decide +kernel)]; exact ⟨rfl, rfl⟩))
    (fun os started H enc _ => lifted8 os started H enc)
#print axioms aluErased_holds
end Go.Proofs.Ytdgjenlejalgeaa
