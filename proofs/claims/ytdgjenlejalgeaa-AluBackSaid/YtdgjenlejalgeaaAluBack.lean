/- For every input AluBack answers true. -/
import Derived.Test.YtdgjenlejalgeaaRows
import Derived.Test.YtdgjenlejalgeaaSx21
namespace Go.Proofs.Ytdgjenlejalgeaa
open Go.ChangeShapes Go.WideShapes Go.ChangeAt Go.RowKit Go.Sx

theorem own : ownKnob Try.prog.godebug = none := by kernel_rfl
theorem laid : laidOutB Try.prog = true := by kernel_rfl
theorem mixed : Try.prog.follows .mixedOrders = true := by kernel_rfl

def v9 : ST := .v (.agg [.ci .u8 (.bin .or .u8 (.ite (.cmp .neq (.bin .and .u64 (.iv 0) (.lit (.ofNat 128))) (.lit (.ofNat 0))) (.lit (.ofNat 128)) (.lit (.ofNat 0))) (.bin .or .u8 (.ite (.cmp .neq (.bin .and .u64 (.iv 0) (.lit (.ofNat 64))) (.lit (.ofNat 0))) (.lit (.ofNat 64)) (.lit (.ofNat 0))) (.bin .or .u8 (.ite (.cmp .neq (.bin .and .u64 (.iv 0) (.lit (.ofNat 8))) (.lit (.ofNat 0))) (.lit (.ofNat 8)) (.lit (.ofNat 0))) (.bin .or .u8 (.ite (.cmp .neq (.bin .and .u64 (.iv 0) (.lit (.ofNat 4))) (.lit (.ofNat 0))) (.lit (.ofNat 4)) (.lit (.ofNat 0))) (.bin .or .u8 (.ite (.cmp .neq (.bin .and .u64 (.iv 0) (.lit (.ofNat 2))) (.lit (.ofNat 0))) (.lit (.ofNat 2)) (.lit (.ofNat 0))) (.ite (.cmp .neq (.bin .and .u64 (.iv 0) (.lit (.ofNat 1))) (.lit (.ofNat 0))) (.lit (.ofNat 1)) (.lit (.ofNat 0)))))))), .ci .u8 (.bin .or .u8 (.ite (.cmp .neq (.bin .and .u64 (.iv 1) (.lit (.ofNat 128))) (.lit (.ofNat 0))) (.lit (.ofNat 128)) (.lit (.ofNat 0))) (.bin .or .u8 (.ite (.cmp .neq (.bin .and .u64 (.iv 1) (.lit (.ofNat 64))) (.lit (.ofNat 0))) (.lit (.ofNat 64)) (.lit (.ofNat 0))) (.bin .or .u8 (.ite (.cmp .neq (.bin .and .u64 (.iv 1) (.lit (.ofNat 8))) (.lit (.ofNat 0))) (.lit (.ofNat 8)) (.lit (.ofNat 0))) (.bin .or .u8 (.ite (.cmp .neq (.bin .and .u64 (.iv 1) (.lit (.ofNat 4))) (.lit (.ofNat 0))) (.lit (.ofNat 4)) (.lit (.ofNat 0))) (.bin .or .u8 (.ite (.cmp .neq (.bin .and .u64 (.iv 1) (.lit (.ofNat 2))) (.lit (.ofNat 0))) (.lit (.ofNat 2)) (.lit (.ofNat 0))) (.ite (.cmp .neq (.bin .and .u64 (.iv 1) (.lit (.ofNat 1))) (.lit (.ofNat 0))) (.lit (.ofNat 1)) (.lit (.ofNat 0))))))))])
def ss9 : List SV := [.agg [.ci .u8 (.iv 0), .ci .u8 (.iv 1)]]
def ks9 : List LK := [.i .u8, .i .u8]
theorem args9 : argTs Try.prog Try.f9.params.toList 0 = some (ss9, ks9) := by kernel_rfl
theorem tree9 : (tree Try.prog 12 (sumsIn []) 300 9 ss9 bare 0 ⟨ks9.map LK.rg, []⟩).small ⟨ks9.map LK.rg, []⟩ = some v9 := by kernel_rfl
def sums9 : List Sm := ⟨9, ss9, ks9, v9⟩ :: []
theorem sok9 : SumsOk Try.prog sums9 := sums_norm mixed sums_nil args9 tree9 (by kernel_rfl)
def x13_2 : X := .cmp .neq (.iv 3) (.lit (.ofNat 0))
def x13_6 : X := .cmp .neq (.bin .and .u64 (.iv 2) (.lit (.ofNat 128))) (.lit (.ofNat 0))
def x13_9 : X := .cmp .neq (.bin .and .u64 (.iv 0) (.lit (.ofNat 128))) (.lit (.ofNat 0))
def x13_11 : X := .not x13_6
def x13_17 : X := .cmp .neq (.bin .and .u64 (.iv 2) (.lit (.ofNat 64))) (.lit (.ofNat 0))
def x13_19 : X := .cmp .neq (.bin .and .u64 (.iv 0) (.lit (.ofNat 64))) (.lit (.ofNat 0))
def x13_21 : X := .not x13_17
def x13_27 : X := .cmp .neq (.bin .and .u64 (.iv 2) (.lit (.ofNat 8))) (.lit (.ofNat 0))
def x13_29 : X := .cmp .neq (.bin .and .u64 (.iv 0) (.lit (.ofNat 8))) (.lit (.ofNat 0))
def x13_31 : X := .not x13_27
def x13_37 : X := .cmp .neq (.bin .and .u64 (.iv 2) (.lit (.ofNat 4))) (.lit (.ofNat 0))
def x13_39 : X := .cmp .neq (.bin .and .u64 (.iv 0) (.lit (.ofNat 4))) (.lit (.ofNat 0))
def x13_41 : X := .not x13_37
def x13_47 : X := .cmp .neq (.bin .and .u64 (.iv 2) (.lit (.ofNat 2))) (.lit (.ofNat 0))
def x13_49 : X := .cmp .neq (.bin .and .u64 (.iv 0) (.lit (.ofNat 2))) (.lit (.ofNat 0))
def x13_51 : X := .not x13_47
def x13_57 : X := .cmp .neq (.bin .and .u64 (.iv 2) (.lit (.ofNat 1))) (.lit (.ofNat 0))
def x13_59 : X := .cmp .neq (.bin .and .u64 (.iv 0) (.lit (.ofNat 1))) (.lit (.ofNat 0))
def x13_61 : X := .not x13_57
def x13_73 : X := .cmp .neq (.bin .and .u64 (.iv 1) (.lit (.ofNat 128))) (.lit (.ofNat 0))
def x13_79 : X := .cmp .neq (.bin .and .u64 (.iv 1) (.lit (.ofNat 64))) (.lit (.ofNat 0))
def x13_85 : X := .cmp .neq (.bin .and .u64 (.iv 1) (.lit (.ofNat 8))) (.lit (.ofNat 0))
def x13_91 : X := .cmp .neq (.bin .and .u64 (.iv 1) (.lit (.ofNat 4))) (.lit (.ofNat 0))
def x13_97 : X := .cmp .neq (.bin .and .u64 (.iv 1) (.lit (.ofNat 2))) (.lit (.ofNat 0))
def x13_103 : X := .cmp .neq (.bin .and .u64 (.iv 1) (.lit (.ofNat 1))) (.lit (.ofNat 0))
def v13 : ST := .v (.agg [.ci .u8 (.bin .or .u8 (.ite (.ite x13_2 (.or x13_6 x13_9) (.and x13_11 x13_9)) (.lit (.ofNat 128)) (.lit (.ofNat 0))) (.bin .or .u8 (.ite (.ite x13_2 (.or x13_17 x13_19) (.and x13_21 x13_19)) (.lit (.ofNat 64)) (.lit (.ofNat 0))) (.bin .or .u8 (.ite (.ite x13_2 (.or x13_27 x13_29) (.and x13_31 x13_29)) (.lit (.ofNat 8)) (.lit (.ofNat 0))) (.bin .or .u8 (.ite (.ite x13_2 (.or x13_37 x13_39) (.and x13_41 x13_39)) (.lit (.ofNat 4)) (.lit (.ofNat 0))) (.bin .or .u8 (.ite (.ite x13_2 (.or x13_47 x13_49) (.and x13_51 x13_49)) (.lit (.ofNat 2)) (.lit (.ofNat 0))) (.ite (.ite x13_2 (.or x13_57 x13_59) (.and x13_61 x13_59)) (.lit (.ofNat 1)) (.lit (.ofNat 0)))))))), .ci .u8 (.bin .or .u8 (.ite (.ite (.bv 4) (.or x13_6 x13_73) (.and x13_11 x13_73)) (.lit (.ofNat 128)) (.lit (.ofNat 0))) (.bin .or .u8 (.ite (.ite (.bv 4) (.or x13_17 x13_79) (.and x13_21 x13_79)) (.lit (.ofNat 64)) (.lit (.ofNat 0))) (.bin .or .u8 (.ite (.ite (.bv 4) (.or x13_27 x13_85) (.and x13_31 x13_85)) (.lit (.ofNat 8)) (.lit (.ofNat 0))) (.bin .or .u8 (.ite (.ite (.bv 4) (.or x13_37 x13_91) (.and x13_41 x13_91)) (.lit (.ofNat 4)) (.lit (.ofNat 0))) (.bin .or .u8 (.ite (.ite (.bv 4) (.or x13_47 x13_97) (.and x13_51 x13_97)) (.lit (.ofNat 2)) (.lit (.ofNat 0))) (.ite (.ite (.bv 4) (.or x13_57 x13_103) (.and x13_61 x13_103)) (.lit (.ofNat 1)) (.lit (.ofNat 0))))))))])
def ss13 : List SV := [.agg [.ci .u8 (.iv 0), .ci .u8 (.iv 1)], .c (.ci .u8 (.iv 2)), .agg [.ci .u8 (.iv 3), .cb (.bv 4)]]
def ks13 : List LK := [.i .u8, .i .u8, .i .u8, .i .u8, .b]
theorem args13 : argTs Try.prog Try.f13.params.toList 0 = some (ss13, ks13) := by kernel_rfl
theorem tree13 : (tree Try.prog 12 (sumsIn sums9) 300 13 ss13 bare 0 ⟨ks13.map LK.rg, []⟩).small ⟨ks13.map LK.rg, []⟩ = some v13 := by kernel_rfl
def sums13 : List Sm := ⟨13, ss13, ks13, v13⟩ :: sums9
theorem sok13 : SumsOk Try.prog sums13 := sums_norm mixed sok9 args13 tree13 (by kernel_rfl)
def x11_4 : X := .cmp .neq (.bin .and .u64 (.iv 2) (.lit (.ofNat 128))) (.lit (.ofNat 0))
def x11_12 : X := .cmp .neq (.bin .and .u64 (.iv 2) (.lit (.ofNat 64))) (.lit (.ofNat 0))
def x11_19 : X := .cmp .neq (.bin .and .u64 (.iv 2) (.lit (.ofNat 8))) (.lit (.ofNat 0))
def x11_26 : X := .cmp .neq (.bin .and .u64 (.iv 2) (.lit (.ofNat 4))) (.lit (.ofNat 0))
def x11_33 : X := .cmp .neq (.bin .and .u64 (.iv 2) (.lit (.ofNat 2))) (.lit (.ofNat 0))
def x11_40 : X := .cmp .neq (.bin .and .u64 (.iv 2) (.lit (.ofNat 1))) (.lit (.ofNat 0))
def v11 : ST := .v (.agg [.ci .u8 (.ite (.cmp .gtr (.bin .or .u8 (.ite (.and x11_4 (.cmp .neq (.bin .and .u64 (.iv 0) (.lit (.ofNat 128))) (.lit (.ofNat 0)))) (.lit (.ofNat 128)) (.lit (.ofNat 0))) (.bin .or .u8 (.ite (.and x11_12 (.cmp .neq (.bin .and .u64 (.iv 0) (.lit (.ofNat 64))) (.lit (.ofNat 0)))) (.lit (.ofNat 64)) (.lit (.ofNat 0))) (.bin .or .u8 (.ite (.and x11_19 (.cmp .neq (.bin .and .u64 (.iv 0) (.lit (.ofNat 8))) (.lit (.ofNat 0)))) (.lit (.ofNat 8)) (.lit (.ofNat 0))) (.bin .or .u8 (.ite (.and x11_26 (.cmp .neq (.bin .and .u64 (.iv 0) (.lit (.ofNat 4))) (.lit (.ofNat 0)))) (.lit (.ofNat 4)) (.lit (.ofNat 0))) (.bin .or .u8 (.ite (.and x11_33 (.cmp .neq (.bin .and .u64 (.iv 0) (.lit (.ofNat 2))) (.lit (.ofNat 0)))) (.lit (.ofNat 2)) (.lit (.ofNat 0))) (.ite (.and x11_40 (.cmp .neq (.bin .and .u64 (.iv 0) (.lit (.ofNat 1))) (.lit (.ofNat 0)))) (.lit (.ofNat 1)) (.lit (.ofNat 0)))))))) (.lit (.ofNat 0))) (.lit (.ofNat 1)) (.lit (.ofNat 0))), .cb (.cmp .gtr (.bin .or .u8 (.ite (.and x11_4 (.cmp .neq (.bin .and .u64 (.iv 1) (.lit (.ofNat 128))) (.lit (.ofNat 0)))) (.lit (.ofNat 128)) (.lit (.ofNat 0))) (.bin .or .u8 (.ite (.and x11_12 (.cmp .neq (.bin .and .u64 (.iv 1) (.lit (.ofNat 64))) (.lit (.ofNat 0)))) (.lit (.ofNat 64)) (.lit (.ofNat 0))) (.bin .or .u8 (.ite (.and x11_19 (.cmp .neq (.bin .and .u64 (.iv 1) (.lit (.ofNat 8))) (.lit (.ofNat 0)))) (.lit (.ofNat 8)) (.lit (.ofNat 0))) (.bin .or .u8 (.ite (.and x11_26 (.cmp .neq (.bin .and .u64 (.iv 1) (.lit (.ofNat 4))) (.lit (.ofNat 0)))) (.lit (.ofNat 4)) (.lit (.ofNat 0))) (.bin .or .u8 (.ite (.and x11_33 (.cmp .neq (.bin .and .u64 (.iv 1) (.lit (.ofNat 2))) (.lit (.ofNat 0)))) (.lit (.ofNat 2)) (.lit (.ofNat 0))) (.ite (.and x11_40 (.cmp .neq (.bin .and .u64 (.iv 1) (.lit (.ofNat 1))) (.lit (.ofNat 0)))) (.lit (.ofNat 1)) (.lit (.ofNat 0)))))))) (.lit (.ofNat 0)))])
def ss11 : List SV := [.agg [.ci .u8 (.iv 0), .ci .u8 (.iv 1)], .c (.ci .u8 (.iv 2))]
def ks11 : List LK := [.i .u8, .i .u8, .i .u8]
theorem args11 : argTs Try.prog Try.f11.params.toList 0 = some (ss11, ks11) := by kernel_rfl
theorem tree11 : (tree Try.prog 12 (sumsIn sums13) 300 11 ss11 bare 0 ⟨ks11.map LK.rg, []⟩).small ⟨ks11.map LK.rg, []⟩ = some v11 := by kernel_rfl
def sums11 : List Sm := ⟨11, ss11, ks11, v11⟩ :: sums13
theorem sok11 : SumsOk Try.prog sums11 := sums_norm mixed sok13 args11 tree11 (by kernel_rfl)
def v15 : ST := .v (.agg [.ci .u8 (.bin .or .u8 (.ite (.cmp .gtr (.iv 2) (.lit (.ofNat 127))) (.lit (.ofNat 128)) (.lit (.ofNat 0))) (.bin .or .u8 (.ite (.cmp .neq (.bin .and .u64 (.iv 0) (.lit (.ofNat 64))) (.lit (.ofNat 0))) (.lit (.ofNat 64)) (.lit (.ofNat 0))) (.bin .or .u8 (.ite (.cmp .neq (.bin .and .u64 (.iv 0) (.lit (.ofNat 8))) (.lit (.ofNat 0))) (.lit (.ofNat 8)) (.lit (.ofNat 0))) (.bin .or .u8 (.ite (.cmp .neq (.bin .and .u64 (.iv 0) (.lit (.ofNat 4))) (.lit (.ofNat 0))) (.lit (.ofNat 4)) (.lit (.ofNat 0))) (.bin .or .u8 (.ite (.cmp .eql (.iv 2) (.lit (.ofNat 0))) (.lit (.ofNat 2)) (.lit (.ofNat 0))) (.ite (.cmp .neq (.bin .and .u64 (.iv 0) (.lit (.ofNat 1))) (.lit (.ofNat 0))) (.lit (.ofNat 1)) (.lit (.ofNat 0)))))))), .ci .u8 (.bin .or .u8 (.ite (.bv 3) (.lit (.ofNat 128)) (.lit (.ofNat 0))) (.bin .or .u8 (.ite (.cmp .neq (.bin .and .u64 (.iv 1) (.lit (.ofNat 64))) (.lit (.ofNat 0))) (.lit (.ofNat 64)) (.lit (.ofNat 0))) (.bin .or .u8 (.ite (.cmp .neq (.bin .and .u64 (.iv 1) (.lit (.ofNat 8))) (.lit (.ofNat 0))) (.lit (.ofNat 8)) (.lit (.ofNat 0))) (.bin .or .u8 (.ite (.cmp .neq (.bin .and .u64 (.iv 1) (.lit (.ofNat 4))) (.lit (.ofNat 0))) (.lit (.ofNat 4)) (.lit (.ofNat 0))) (.bin .or .u8 (.ite (.bv 3) (.lit (.ofNat 2)) (.lit (.ofNat 0))) (.ite (.cmp .neq (.bin .and .u64 (.iv 1) (.lit (.ofNat 1))) (.lit (.ofNat 0))) (.lit (.ofNat 1)) (.lit (.ofNat 0))))))))])
def ss15 : List SV := [.agg [.ci .u8 (.iv 0), .ci .u8 (.iv 1)], .agg [.ci .u8 (.iv 2), .cb (.bv 3)]]
def ks15 : List LK := [.i .u8, .i .u8, .i .u8, .b]
theorem args15 : argTs Try.prog Try.f15.params.toList 0 = some (ss15, ks15) := by kernel_rfl
theorem tree15 : (tree Try.prog 12 (sumsIn sums11) 300 15 ss15 bare 0 ⟨ks15.map LK.rg, []⟩).small ⟨ks15.map LK.rg, []⟩ = some v15 := by kernel_rfl
def sums15 : List Sm := ⟨15, ss15, ks15, v15⟩ :: sums11
theorem sok15 : SumsOk Try.prog sums15 := sums_norm mixed sok11 args15 tree15 (by kernel_rfl)
def x22_9 : X := .bin .add .u64 (.bin .add .u64 (.iv 2) (.iv 4)) (.ite (.cmp .neq (.bin .and .u64 (.iv 0) (.lit (.ofNat 1))) (.lit (.ofNat 0))) (.lit (.ofNat 1)) (.lit (.ofNat 0)))
def x22_10 : X := .wrap .u8 x22_9
def x22_17 : X := .or (.bv 5) (.or (.bv 3) (.cmp .neq (.bin .and .u64 (.iv 1) (.lit (.ofNat 1))) (.lit (.ofNat 0))))
def x22_25 : X := .cmp .neq (.bin .and .u64 (.iv 2) (.lit (.ofNat 128))) (.lit (.ofNat 0))
def x22_33 : X := .cmp .neq (.bin .and .u64 (.iv 2) (.lit (.ofNat 64))) (.lit (.ofNat 0))
def x22_41 : X := .cmp .neq (.bin .and .u64 (.iv 2) (.lit (.ofNat 32))) (.lit (.ofNat 0))
def x22_49 : X := .cmp .neq (.bin .and .u64 (.iv 2) (.lit (.ofNat 16))) (.lit (.ofNat 0))
def x22_57 : X := .cmp .neq (.bin .and .u64 (.iv 2) (.lit (.ofNat 8))) (.lit (.ofNat 0))
def x22_65 : X := .cmp .neq (.bin .and .u64 (.iv 2) (.lit (.ofNat 4))) (.lit (.ofNat 0))
def x22_73 : X := .cmp .neq (.bin .and .u64 (.iv 2) (.lit (.ofNat 2))) (.lit (.ofNat 0))
def x22_80 : X := .cmp .neq (.bin .and .u64 (.iv 2) (.lit (.ofNat 1))) (.lit (.ofNat 0))
def x22_93 : X := .bin .and .u8 (.bin .and .u8 (.bin .or .u8 (.ite (.ite (.cmp .neq (.bin .and .u64 (.iv 4) (.lit (.ofNat 128))) (.lit (.ofNat 0))) x22_25 (.not x22_25)) (.lit (.ofNat 128)) (.lit (.ofNat 0))) (.bin .or .u8 (.ite (.ite (.cmp .neq (.bin .and .u64 (.iv 4) (.lit (.ofNat 64))) (.lit (.ofNat 0))) x22_33 (.not x22_33)) (.lit (.ofNat 64)) (.lit (.ofNat 0))) (.bin .or .u8 (.ite (.ite (.cmp .neq (.bin .and .u64 (.iv 4) (.lit (.ofNat 32))) (.lit (.ofNat 0))) x22_41 (.not x22_41)) (.lit (.ofNat 32)) (.lit (.ofNat 0))) (.bin .or .u8 (.ite (.ite (.cmp .neq (.bin .and .u64 (.iv 4) (.lit (.ofNat 16))) (.lit (.ofNat 0))) x22_49 (.not x22_49)) (.lit (.ofNat 16)) (.lit (.ofNat 0))) (.bin .or .u8 (.ite (.ite (.cmp .neq (.bin .and .u64 (.iv 4) (.lit (.ofNat 8))) (.lit (.ofNat 0))) x22_57 (.not x22_57)) (.lit (.ofNat 8)) (.lit (.ofNat 0))) (.bin .or .u8 (.ite (.ite (.cmp .neq (.bin .and .u64 (.iv 4) (.lit (.ofNat 4))) (.lit (.ofNat 0))) x22_65 (.not x22_65)) (.lit (.ofNat 4)) (.lit (.ofNat 0))) (.bin .or .u8 (.ite (.ite (.cmp .neq (.bin .and .u64 (.iv 4) (.lit (.ofNat 2))) (.lit (.ofNat 0))) x22_73 (.not x22_73)) (.lit (.ofNat 2)) (.lit (.ofNat 0))) (.ite (.ite (.cmp .neq (.bin .and .u64 (.iv 4) (.lit (.ofNat 1))) (.lit (.ofNat 0))) x22_80 (.not x22_80)) (.lit (.ofNat 1)) (.lit (.ofNat 0)))))))))) (.bin .xor .u8 (.iv 2) x22_10)) (.lit (.ofNat 128))
def v22 : ST := .tup [.agg [.ci .u8 x22_10, .cb x22_17], .agg [.ci .u8 (.bin .or .u8 (.ite (.cmp .gtr x22_10 (.lit (.ofNat 127))) (.lit (.ofNat 128)) (.lit (.ofNat 0))) (.bin .or .u8 (.ite (.cmp .gtr x22_93 (.lit (.ofNat 0))) (.lit (.ofNat 64)) (.lit (.ofNat 0))) (.bin .or .u8 (.ite (.cmp .neq (.bin .and .u64 (.iv 0) (.lit (.ofNat 8))) (.lit (.ofNat 0))) (.lit (.ofNat 8)) (.lit (.ofNat 0))) (.bin .or .u8 (.ite (.cmp .neq (.bin .and .u64 (.iv 0) (.lit (.ofNat 4))) (.lit (.ofNat 0))) (.lit (.ofNat 4)) (.lit (.ofNat 0))) (.bin .or .u8 (.ite (.cmp .eql x22_10 (.lit (.ofNat 0))) (.lit (.ofNat 2)) (.lit (.ofNat 0))) (.ite (.cmp .gtr x22_9 (.lit (.ofNat 255))) (.lit (.ofNat 1)) (.lit (.ofNat 0)))))))), .ci .u8 (.bin .or .u8 (.ite x22_17 (.lit (.ofNat 128)) (.lit (.ofNat 0))) (.bin .or .u8 (.ite x22_17 (.lit (.ofNat 64)) (.lit (.ofNat 0))) (.bin .or .u8 (.ite (.cmp .neq (.bin .and .u64 (.iv 1) (.lit (.ofNat 8))) (.lit (.ofNat 0))) (.lit (.ofNat 8)) (.lit (.ofNat 0))) (.bin .or .u8 (.ite (.cmp .neq (.bin .and .u64 (.iv 1) (.lit (.ofNat 4))) (.lit (.ofNat 0))) (.lit (.ofNat 4)) (.lit (.ofNat 0))) (.bin .or .u8 (.ite x22_17 (.lit (.ofNat 2)) (.lit (.ofNat 0))) (.ite x22_17 (.lit (.ofNat 1)) (.lit (.ofNat 0))))))))]]
def ss22 : List SV := [.agg [.ci .u8 (.iv 0), .ci .u8 (.iv 1)], .agg [.ci .u8 (.iv 2), .cb (.bv 3)], .agg [.ci .u8 (.iv 4), .cb (.bv 5)]]
def ks22 : List LK := [.i .u8, .i .u8, .i .u8, .b, .i .u8, .b]
theorem args22 : argTs Try.prog Try.f22.params.toList 0 = some (ss22, ks22) := by kernel_rfl
theorem tree22 : (tree Try.prog 12 (sumsIn sums15) 300 22 ss22 bare 0 ⟨ks22.map LK.rg, []⟩).small ⟨ks22.map LK.rg, []⟩ = some v22 := by kernel_rfl
def sums22 : List Sm := ⟨22, ss22, ks22, v22⟩ :: sums15
theorem sok22 : SumsOk Try.prog sums22 := sums_norm mixed sok15 args22 tree22 (by kernel_rfl)
def v50 : ST := .v (.agg [.ci .u8 (.iv 0), .cb (.bl false)])
def ss50 : List SV := [.c (.ci .u8 (.iv 0))]
def ks50 : List LK := [.i .u8]
theorem args50 : argTs Try.prog Try.f50.params.toList 0 = some (ss50, ks50) := by kernel_rfl
theorem tree50 : (tree Try.prog 12 (sumsIn sums22) 300 50 ss50 bare 0 ⟨ks50.map LK.rg, []⟩).small ⟨ks50.map LK.rg, []⟩ = some v50 := by kernel_rfl
def sums50 : List Sm := ⟨50, ss50, ks50, v50⟩ :: sums22
theorem sok50 : SumsOk Try.prog sums50 := sums_norm mixed sok22 args50 tree50 (by kernel_rfl)
def x49_7 : X := .cmp .neq (.bin .and .u64 (.iv 0) (.lit (.ofNat 128))) (.lit (.ofNat 0))
def x49_15 : X := .cmp .neq (.bin .and .u64 (.iv 0) (.lit (.ofNat 64))) (.lit (.ofNat 0))
def x49_23 : X := .cmp .neq (.bin .and .u64 (.iv 0) (.lit (.ofNat 32))) (.lit (.ofNat 0))
def x49_31 : X := .cmp .neq (.bin .and .u64 (.iv 0) (.lit (.ofNat 16))) (.lit (.ofNat 0))
def x49_39 : X := .cmp .neq (.bin .and .u64 (.iv 0) (.lit (.ofNat 8))) (.lit (.ofNat 0))
def x49_47 : X := .cmp .neq (.bin .and .u64 (.iv 0) (.lit (.ofNat 4))) (.lit (.ofNat 0))
def x49_55 : X := .cmp .neq (.bin .and .u64 (.iv 0) (.lit (.ofNat 2))) (.lit (.ofNat 0))
def x49_63 : X := .cmp .neq (.bin .and .u64 (.iv 0) (.lit (.ofNat 1))) (.lit (.ofNat 0))
def v49 : ST := .v (.agg [.ci .u8 (.bin .or .u8 (.ite (.ite (.cmp .neq (.bin .and .u64 (.iv 2) (.lit (.ofNat 128))) (.lit (.ofNat 0))) (.not x49_7) x49_7) (.lit (.ofNat 128)) (.lit (.ofNat 0))) (.bin .or .u8 (.ite (.ite (.cmp .neq (.bin .and .u64 (.iv 2) (.lit (.ofNat 64))) (.lit (.ofNat 0))) (.not x49_15) x49_15) (.lit (.ofNat 64)) (.lit (.ofNat 0))) (.bin .or .u8 (.ite (.ite (.cmp .neq (.bin .and .u64 (.iv 2) (.lit (.ofNat 32))) (.lit (.ofNat 0))) (.not x49_23) x49_23) (.lit (.ofNat 32)) (.lit (.ofNat 0))) (.bin .or .u8 (.ite (.ite (.cmp .neq (.bin .and .u64 (.iv 2) (.lit (.ofNat 16))) (.lit (.ofNat 0))) (.not x49_31) x49_31) (.lit (.ofNat 16)) (.lit (.ofNat 0))) (.bin .or .u8 (.ite (.ite (.cmp .neq (.bin .and .u64 (.iv 2) (.lit (.ofNat 8))) (.lit (.ofNat 0))) (.not x49_39) x49_39) (.lit (.ofNat 8)) (.lit (.ofNat 0))) (.bin .or .u8 (.ite (.ite (.cmp .neq (.bin .and .u64 (.iv 2) (.lit (.ofNat 4))) (.lit (.ofNat 0))) (.not x49_47) x49_47) (.lit (.ofNat 4)) (.lit (.ofNat 0))) (.bin .or .u8 (.ite (.ite (.cmp .neq (.bin .and .u64 (.iv 2) (.lit (.ofNat 2))) (.lit (.ofNat 0))) (.not x49_55) x49_55) (.lit (.ofNat 2)) (.lit (.ofNat 0))) (.ite (.ite (.cmp .neq (.bin .and .u64 (.iv 2) (.lit (.ofNat 1))) (.lit (.ofNat 0))) (.not x49_63) x49_63) (.lit (.ofNat 1)) (.lit (.ofNat 0)))))))))), .cb (.or (.bv 3) (.bv 1))])
def ss49 : List SV := [.agg [.ci .u8 (.iv 0), .cb (.bv 1)], .agg [.ci .u8 (.iv 2), .cb (.bv 3)]]
def ks49 : List LK := [.i .u8, .b, .i .u8, .b]
theorem args49 : argTs Try.prog Try.f49.params.toList 0 = some (ss49, ks49) := by kernel_rfl
theorem tree49 : (tree Try.prog 12 (sumsIn sums50) 300 49 ss49 bare 0 ⟨ks49.map LK.rg, []⟩).small ⟨ks49.map LK.rg, []⟩ = some v49 := by kernel_rfl
def sums49 : List Sm := ⟨49, ss49, ks49, v49⟩ :: sums50
theorem sok49 : SumsOk Try.prog sums49 := sums_norm mixed sok50 args49 tree49 (by kernel_rfl)
def x24_5 : X := .cmp .neq (.bin .and .u64 (.iv 4) (.lit (.ofNat 128))) (.lit (.ofNat 0))
def x24_10 : X := .cmp .neq (.bin .and .u64 (.iv 4) (.lit (.ofNat 64))) (.lit (.ofNat 0))
def x24_15 : X := .cmp .neq (.bin .and .u64 (.iv 4) (.lit (.ofNat 32))) (.lit (.ofNat 0))
def x24_20 : X := .cmp .neq (.bin .and .u64 (.iv 4) (.lit (.ofNat 16))) (.lit (.ofNat 0))
def x24_25 : X := .cmp .neq (.bin .and .u64 (.iv 4) (.lit (.ofNat 8))) (.lit (.ofNat 0))
def x24_30 : X := .cmp .neq (.bin .and .u64 (.iv 4) (.lit (.ofNat 4))) (.lit (.ofNat 0))
def x24_35 : X := .cmp .neq (.bin .and .u64 (.iv 4) (.lit (.ofNat 2))) (.lit (.ofNat 0))
def x24_40 : X := .cmp .neq (.bin .and .u64 (.iv 4) (.lit (.ofNat 1))) (.lit (.ofNat 0))
def x24_55 : X := .bin .add .u64 (.bin .add .u64 (.iv 2) (.bin .or .u8 (.ite (.not x24_5) (.lit (.ofNat 128)) (.lit (.ofNat 0))) (.bin .or .u8 (.ite (.not x24_10) (.lit (.ofNat 64)) (.lit (.ofNat 0))) (.bin .or .u8 (.ite (.not x24_15) (.lit (.ofNat 32)) (.lit (.ofNat 0))) (.bin .or .u8 (.ite (.not x24_20) (.lit (.ofNat 16)) (.lit (.ofNat 0))) (.bin .or .u8 (.ite (.not x24_25) (.lit (.ofNat 8)) (.lit (.ofNat 0))) (.bin .or .u8 (.ite (.not x24_30) (.lit (.ofNat 4)) (.lit (.ofNat 0))) (.bin .or .u8 (.ite (.not x24_35) (.lit (.ofNat 2)) (.lit (.ofNat 0))) (.ite (.not x24_40) (.lit (.ofNat 1)) (.lit (.ofNat 0))))))))))) (.ite (.cmp .neq (.bin .and .u64 (.iv 0) (.lit (.ofNat 1))) (.lit (.ofNat 0))) (.lit (.ofNat 1)) (.lit (.ofNat 0)))
def x24_56 : X := .wrap .u8 x24_55
def x24_63 : X := .or (.bv 5) (.or (.bv 3) (.cmp .neq (.bin .and .u64 (.iv 1) (.lit (.ofNat 1))) (.lit (.ofNat 0))))
def x24_68 : X := .cmp .neq (.bin .and .u64 (.iv 2) (.lit (.ofNat 128))) (.lit (.ofNat 0))
def x24_73 : X := .cmp .neq (.bin .and .u64 (.iv 2) (.lit (.ofNat 64))) (.lit (.ofNat 0))
def x24_78 : X := .cmp .neq (.bin .and .u64 (.iv 2) (.lit (.ofNat 32))) (.lit (.ofNat 0))
def x24_83 : X := .cmp .neq (.bin .and .u64 (.iv 2) (.lit (.ofNat 16))) (.lit (.ofNat 0))
def x24_88 : X := .cmp .neq (.bin .and .u64 (.iv 2) (.lit (.ofNat 8))) (.lit (.ofNat 0))
def x24_93 : X := .cmp .neq (.bin .and .u64 (.iv 2) (.lit (.ofNat 4))) (.lit (.ofNat 0))
def x24_98 : X := .cmp .neq (.bin .and .u64 (.iv 2) (.lit (.ofNat 2))) (.lit (.ofNat 0))
def x24_103 : X := .cmp .neq (.bin .and .u64 (.iv 2) (.lit (.ofNat 1))) (.lit (.ofNat 0))
def x24_118 : X := .ite (.cmp .gtr (.bin .and .u8 (.bin .and .u8 (.bin .or .u8 (.ite (.ite x24_5 (.not x24_68) x24_68) (.lit (.ofNat 128)) (.lit (.ofNat 0))) (.bin .or .u8 (.ite (.ite x24_10 (.not x24_73) x24_73) (.lit (.ofNat 64)) (.lit (.ofNat 0))) (.bin .or .u8 (.ite (.ite x24_15 (.not x24_78) x24_78) (.lit (.ofNat 32)) (.lit (.ofNat 0))) (.bin .or .u8 (.ite (.ite x24_20 (.not x24_83) x24_83) (.lit (.ofNat 16)) (.lit (.ofNat 0))) (.bin .or .u8 (.ite (.ite x24_25 (.not x24_88) x24_88) (.lit (.ofNat 8)) (.lit (.ofNat 0))) (.bin .or .u8 (.ite (.ite x24_30 (.not x24_93) x24_93) (.lit (.ofNat 4)) (.lit (.ofNat 0))) (.bin .or .u8 (.ite (.ite x24_35 (.not x24_98) x24_98) (.lit (.ofNat 2)) (.lit (.ofNat 0))) (.ite (.ite x24_40 (.not x24_103) x24_103) (.lit (.ofNat 1)) (.lit (.ofNat 0)))))))))) (.bin .xor .u8 (.iv 2) x24_56)) (.lit (.ofNat 128))) (.lit (.ofNat 0))) (.lit (.ofNat 64)) (.lit (.ofNat 0))
def v24 : ST := .tup [.agg [.ci .u8 x24_56, .cb x24_63], .agg [.ci .u8 (.bin .or .u8 (.ite (.cmp .gtr x24_56 (.lit (.ofNat 127))) (.lit (.ofNat 128)) (.lit (.ofNat 0))) (.bin .or .u8 x24_118 (.bin .or .u8 (.ite (.cmp .neq (.bin .and .u64 (.iv 0) (.lit (.ofNat 8))) (.lit (.ofNat 0))) (.lit (.ofNat 8)) (.lit (.ofNat 0))) (.bin .or .u8 (.ite (.cmp .neq (.bin .and .u64 (.iv 0) (.lit (.ofNat 4))) (.lit (.ofNat 0))) (.lit (.ofNat 4)) (.lit (.ofNat 0))) (.bin .or .u8 (.ite (.cmp .eql x24_56 (.lit (.ofNat 0))) (.lit (.ofNat 2)) (.lit (.ofNat 0))) (.ite (.cmp .gtr x24_55 (.lit (.ofNat 255))) (.lit (.ofNat 1)) (.lit (.ofNat 0)))))))), .ci .u8 (.bin .or .u8 (.ite x24_63 (.lit (.ofNat 128)) (.lit (.ofNat 0))) (.bin .or .u8 (.ite x24_63 (.lit (.ofNat 64)) (.lit (.ofNat 0))) (.bin .or .u8 (.ite (.cmp .neq (.bin .and .u64 (.iv 1) (.lit (.ofNat 8))) (.lit (.ofNat 0))) (.lit (.ofNat 8)) (.lit (.ofNat 0))) (.bin .or .u8 (.ite (.cmp .neq (.bin .and .u64 (.iv 1) (.lit (.ofNat 4))) (.lit (.ofNat 0))) (.lit (.ofNat 4)) (.lit (.ofNat 0))) (.bin .or .u8 (.ite x24_63 (.lit (.ofNat 2)) (.lit (.ofNat 0))) (.ite x24_63 (.lit (.ofNat 1)) (.lit (.ofNat 0))))))))]]
def ss24 : List SV := [.agg [.ci .u8 (.iv 0), .ci .u8 (.iv 1)], .agg [.ci .u8 (.iv 2), .cb (.bv 3)], .agg [.ci .u8 (.iv 4), .cb (.bv 5)]]
def ks24 : List LK := [.i .u8, .i .u8, .i .u8, .b, .i .u8, .b]
theorem args24 : argTs Try.prog Try.f24.params.toList 0 = some (ss24, ks24) := by kernel_rfl
theorem tree24 : (tree Try.prog 12 (sumsIn sums49) 300 24 ss24 bare 0 ⟨ks24.map LK.rg, []⟩).small ⟨ks24.map LK.rg, []⟩ = some v24 := by kernel_rfl
def sums24 : List Sm := ⟨24, ss24, ks24, v24⟩ :: sums49
theorem sok24 : SumsOk Try.prog sums24 := sums_norm mixed sok49 args24 tree24 (by kernel_rfl)
def v52 : ST := .v (.agg [.ci .u8 (.ite (.or (.cmp .lss (.iv 2) (.lit (.ofNat 0))) (.cmp .gtr (.iv 2) (.lit (.ofNat 7)))) (.lit (.ofNat 0)) (.bin .and .u8 (.bin .shr .u8 (.iv 0) (.iv 2)) (.lit (.ofNat 1)))), .cb (.bv 1)])
def ss52 : List SV := [.agg [.ci .u8 (.iv 0), .cb (.bv 1)], .c (.ci .i64 (.iv 2))]
def ks52 : List LK := [.i .u8, .b, .i .i64]
theorem args52 : argTs Try.prog Try.f52.params.toList 0 = some (ss52, ks52) := by kernel_rfl
theorem tree52 : (tree Try.prog 12 (sumsIn sums24) 300 52 ss52 bare 0 ⟨ks52.map LK.rg, []⟩).small ⟨ks52.map LK.rg, []⟩ = some v52 := by kernel_rfl
def sums52 : List Sm := ⟨52, ss52, ks52, v52⟩ :: sums24
theorem sok52 : SumsOk Try.prog sums52 := sums_norm mixed sok24 args52 tree52 (by kernel_rfl)
def v54 : ST := .tup [.agg [.ci .u8 (.iv 2), .cb (.bv 3)], .agg [.ci .u8 (.bin .or .u8 (.ite (.cmp .gtr (.iv 2) (.lit (.ofNat 127))) (.lit (.ofNat 128)) (.lit (.ofNat 0))) (.bin .or .u8 (.ite (.cmp .neq (.bin .and .u64 (.iv 0) (.lit (.ofNat 64))) (.lit (.ofNat 0))) (.lit (.ofNat 64)) (.lit (.ofNat 0))) (.bin .or .u8 (.ite (.cmp .neq (.bin .and .u64 (.iv 0) (.lit (.ofNat 8))) (.lit (.ofNat 0))) (.lit (.ofNat 8)) (.lit (.ofNat 0))) (.bin .or .u8 (.ite (.cmp .neq (.bin .and .u64 (.iv 0) (.lit (.ofNat 4))) (.lit (.ofNat 0))) (.lit (.ofNat 4)) (.lit (.ofNat 0))) (.bin .or .u8 (.ite (.cmp .eql (.iv 2) (.lit (.ofNat 0))) (.lit (.ofNat 2)) (.lit (.ofNat 0))) (.ite (.cmp .neq (.iv 4) (.lit (.ofNat 0))) (.lit (.ofNat 1)) (.lit (.ofNat 0)))))))), .ci .u8 (.bin .or .u8 (.ite (.bv 3) (.lit (.ofNat 128)) (.lit (.ofNat 0))) (.bin .or .u8 (.ite (.cmp .neq (.bin .and .u64 (.iv 1) (.lit (.ofNat 64))) (.lit (.ofNat 0))) (.lit (.ofNat 64)) (.lit (.ofNat 0))) (.bin .or .u8 (.ite (.cmp .neq (.bin .and .u64 (.iv 1) (.lit (.ofNat 8))) (.lit (.ofNat 0))) (.lit (.ofNat 8)) (.lit (.ofNat 0))) (.bin .or .u8 (.ite (.cmp .neq (.bin .and .u64 (.iv 1) (.lit (.ofNat 4))) (.lit (.ofNat 0))) (.lit (.ofNat 4)) (.lit (.ofNat 0))) (.bin .or .u8 (.ite (.bv 3) (.lit (.ofNat 2)) (.lit (.ofNat 0))) (.ite (.bv 5) (.lit (.ofNat 1)) (.lit (.ofNat 0))))))))]]
def ss54 : List SV := [.agg [.ci .u8 (.iv 0), .ci .u8 (.iv 1)], .agg [.ci .u8 (.iv 2), .cb (.bv 3)], .agg [.ci .u8 (.iv 4), .cb (.bv 5)]]
def ks54 : List LK := [.i .u8, .i .u8, .i .u8, .b, .i .u8, .b]
theorem args54 : argTs Try.prog Try.f54.params.toList 0 = some (ss54, ks54) := by kernel_rfl
theorem tree54 : (tree Try.prog 12 (sumsIn sums52) 300 54 ss54 bare 0 ⟨ks54.map LK.rg, []⟩).small ⟨ks54.map LK.rg, []⟩ = some v54 := by kernel_rfl
def sums54 : List Sm := ⟨54, ss54, ks54, v54⟩ :: sums52
theorem sok54 : SumsOk Try.prog sums54 := sums_norm mixed sok52 args54 tree54 (by kernel_rfl)
def x31_41 : X := .bin .or .u8 (.ite (.cmp .neq (.bin .and .u64 (.iv 2) (.lit (.ofNat 64))) (.lit (.ofNat 0))) (.lit (.ofNat 128)) (.lit (.ofNat 0))) (.bin .or .u8 (.ite (.cmp .neq (.bin .and .u64 (.iv 2) (.lit (.ofNat 32))) (.lit (.ofNat 0))) (.lit (.ofNat 64)) (.lit (.ofNat 0))) (.bin .or .u8 (.ite (.cmp .neq (.bin .and .u64 (.iv 2) (.lit (.ofNat 16))) (.lit (.ofNat 0))) (.lit (.ofNat 32)) (.lit (.ofNat 0))) (.bin .or .u8 (.ite (.cmp .neq (.bin .and .u64 (.iv 2) (.lit (.ofNat 8))) (.lit (.ofNat 0))) (.lit (.ofNat 16)) (.lit (.ofNat 0))) (.bin .or .u8 (.ite (.cmp .neq (.bin .and .u64 (.iv 2) (.lit (.ofNat 4))) (.lit (.ofNat 0))) (.lit (.ofNat 8)) (.lit (.ofNat 0))) (.bin .or .u8 (.ite (.cmp .neq (.bin .and .u64 (.iv 2) (.lit (.ofNat 2))) (.lit (.ofNat 0))) (.lit (.ofNat 4)) (.lit (.ofNat 0))) (.bin .or .u8 (.ite (.cmp .neq (.bin .and .u64 (.iv 2) (.lit (.ofNat 1))) (.lit (.ofNat 0))) (.lit (.ofNat 2)) (.lit (.ofNat 0))) (.ite (.cmp .neq (.bin .and .u64 (.iv 0) (.lit (.ofNat 1))) (.lit (.ofNat 0))) (.lit (.ofNat 1)) (.lit (.ofNat 0)))))))))
def x31_46 : X := .or (.bv 3) (.cmp .neq (.bin .and .u64 (.iv 1) (.lit (.ofNat 1))) (.lit (.ofNat 0)))
def v31 : ST := .tup [.agg [.ci .u8 x31_41, .cb x31_46], .agg [.ci .u8 (.bin .or .u8 (.ite (.cmp .gtr x31_41 (.lit (.ofNat 127))) (.lit (.ofNat 128)) (.lit (.ofNat 0))) (.bin .or .u8 (.ite (.cmp .neq (.bin .and .u64 (.iv 0) (.lit (.ofNat 64))) (.lit (.ofNat 0))) (.lit (.ofNat 64)) (.lit (.ofNat 0))) (.bin .or .u8 (.ite (.cmp .neq (.bin .and .u64 (.iv 0) (.lit (.ofNat 8))) (.lit (.ofNat 0))) (.lit (.ofNat 8)) (.lit (.ofNat 0))) (.bin .or .u8 (.ite (.cmp .neq (.bin .and .u64 (.iv 0) (.lit (.ofNat 4))) (.lit (.ofNat 0))) (.lit (.ofNat 4)) (.lit (.ofNat 0))) (.bin .or .u8 (.ite (.cmp .eql x31_41 (.lit (.ofNat 0))) (.lit (.ofNat 2)) (.lit (.ofNat 0))) (.ite (.cmp .neq (.bin .and .u64 (.iv 2) (.lit (.ofNat 128))) (.lit (.ofNat 0))) (.lit (.ofNat 1)) (.lit (.ofNat 0)))))))), .ci .u8 (.bin .or .u8 (.ite x31_46 (.lit (.ofNat 128)) (.lit (.ofNat 0))) (.bin .or .u8 (.ite (.cmp .neq (.bin .and .u64 (.iv 1) (.lit (.ofNat 64))) (.lit (.ofNat 0))) (.lit (.ofNat 64)) (.lit (.ofNat 0))) (.bin .or .u8 (.ite (.cmp .neq (.bin .and .u64 (.iv 1) (.lit (.ofNat 8))) (.lit (.ofNat 0))) (.lit (.ofNat 8)) (.lit (.ofNat 0))) (.bin .or .u8 (.ite (.cmp .neq (.bin .and .u64 (.iv 1) (.lit (.ofNat 4))) (.lit (.ofNat 0))) (.lit (.ofNat 4)) (.lit (.ofNat 0))) (.bin .or .u8 (.ite x31_46 (.lit (.ofNat 2)) (.lit (.ofNat 0))) (.ite (.bv 3) (.lit (.ofNat 1)) (.lit (.ofNat 0))))))))]]
def ss31 : List SV := [.agg [.ci .u8 (.iv 0), .ci .u8 (.iv 1)], .agg [.ci .u8 (.iv 2), .cb (.bv 3)]]
def ks31 : List LK := [.i .u8, .i .u8, .i .u8, .b]
theorem args31 : argTs Try.prog Try.f31.params.toList 0 = some (ss31, ks31) := by kernel_rfl
theorem tree31 : (tree Try.prog 12 (sumsIn sums54) 300 31 ss31 bare 0 ⟨ks31.map LK.rg, []⟩).small ⟨ks31.map LK.rg, []⟩ = some v31 := by kernel_rfl
def sums31 : List Sm := ⟨31, ss31, ks31, v31⟩ :: sums54
theorem sok31 : SumsOk Try.prog sums31 := sums_norm mixed sok54 args31 tree31 (by kernel_rfl)
def x32_41 : X := .bin .or .u8 (.ite (.cmp .neq (.bin .and .u64 (.iv 0) (.lit (.ofNat 1))) (.lit (.ofNat 0))) (.lit (.ofNat 128)) (.lit (.ofNat 0))) (.bin .or .u8 (.ite (.cmp .neq (.bin .and .u64 (.iv 2) (.lit (.ofNat 128))) (.lit (.ofNat 0))) (.lit (.ofNat 64)) (.lit (.ofNat 0))) (.bin .or .u8 (.ite (.cmp .neq (.bin .and .u64 (.iv 2) (.lit (.ofNat 64))) (.lit (.ofNat 0))) (.lit (.ofNat 32)) (.lit (.ofNat 0))) (.bin .or .u8 (.ite (.cmp .neq (.bin .and .u64 (.iv 2) (.lit (.ofNat 32))) (.lit (.ofNat 0))) (.lit (.ofNat 16)) (.lit (.ofNat 0))) (.bin .or .u8 (.ite (.cmp .neq (.bin .and .u64 (.iv 2) (.lit (.ofNat 16))) (.lit (.ofNat 0))) (.lit (.ofNat 8)) (.lit (.ofNat 0))) (.bin .or .u8 (.ite (.cmp .neq (.bin .and .u64 (.iv 2) (.lit (.ofNat 8))) (.lit (.ofNat 0))) (.lit (.ofNat 4)) (.lit (.ofNat 0))) (.bin .or .u8 (.ite (.cmp .neq (.bin .and .u64 (.iv 2) (.lit (.ofNat 4))) (.lit (.ofNat 0))) (.lit (.ofNat 2)) (.lit (.ofNat 0))) (.ite (.cmp .neq (.bin .and .u64 (.iv 2) (.lit (.ofNat 2))) (.lit (.ofNat 0))) (.lit (.ofNat 1)) (.lit (.ofNat 0)))))))))
def x32_46 : X := .or (.bv 3) (.cmp .neq (.bin .and .u64 (.iv 1) (.lit (.ofNat 1))) (.lit (.ofNat 0)))
def v32 : ST := .tup [.agg [.ci .u8 x32_41, .cb x32_46], .agg [.ci .u8 (.bin .or .u8 (.ite (.cmp .gtr x32_41 (.lit (.ofNat 127))) (.lit (.ofNat 128)) (.lit (.ofNat 0))) (.bin .or .u8 (.ite (.cmp .neq (.bin .and .u64 (.iv 0) (.lit (.ofNat 64))) (.lit (.ofNat 0))) (.lit (.ofNat 64)) (.lit (.ofNat 0))) (.bin .or .u8 (.ite (.cmp .neq (.bin .and .u64 (.iv 0) (.lit (.ofNat 8))) (.lit (.ofNat 0))) (.lit (.ofNat 8)) (.lit (.ofNat 0))) (.bin .or .u8 (.ite (.cmp .neq (.bin .and .u64 (.iv 0) (.lit (.ofNat 4))) (.lit (.ofNat 0))) (.lit (.ofNat 4)) (.lit (.ofNat 0))) (.bin .or .u8 (.ite (.cmp .eql x32_41 (.lit (.ofNat 0))) (.lit (.ofNat 2)) (.lit (.ofNat 0))) (.ite (.cmp .neq (.bin .and .u64 (.iv 2) (.lit (.ofNat 1))) (.lit (.ofNat 0))) (.lit (.ofNat 1)) (.lit (.ofNat 0)))))))), .ci .u8 (.bin .or .u8 (.ite x32_46 (.lit (.ofNat 128)) (.lit (.ofNat 0))) (.bin .or .u8 (.ite (.cmp .neq (.bin .and .u64 (.iv 1) (.lit (.ofNat 64))) (.lit (.ofNat 0))) (.lit (.ofNat 64)) (.lit (.ofNat 0))) (.bin .or .u8 (.ite (.cmp .neq (.bin .and .u64 (.iv 1) (.lit (.ofNat 8))) (.lit (.ofNat 0))) (.lit (.ofNat 8)) (.lit (.ofNat 0))) (.bin .or .u8 (.ite (.cmp .neq (.bin .and .u64 (.iv 1) (.lit (.ofNat 4))) (.lit (.ofNat 0))) (.lit (.ofNat 4)) (.lit (.ofNat 0))) (.bin .or .u8 (.ite x32_46 (.lit (.ofNat 2)) (.lit (.ofNat 0))) (.ite (.bv 3) (.lit (.ofNat 1)) (.lit (.ofNat 0))))))))]]
def ss32 : List SV := [.agg [.ci .u8 (.iv 0), .ci .u8 (.iv 1)], .agg [.ci .u8 (.iv 2), .cb (.bv 3)]]
def ks32 : List LK := [.i .u8, .i .u8, .i .u8, .b]
theorem args32 : argTs Try.prog Try.f32.params.toList 0 = some (ss32, ks32) := by kernel_rfl
theorem tree32 : (tree Try.prog 12 (sumsIn sums31) 300 32 ss32 bare 0 ⟨ks32.map LK.rg, []⟩).small ⟨ks32.map LK.rg, []⟩ = some v32 := by kernel_rfl
def sums32 : List Sm := ⟨32, ss32, ks32, v32⟩ :: sums31
theorem sok32 : SumsOk Try.prog sums32 := sums_norm mixed sok31 args32 tree32 (by kernel_rfl)
def x26_2 : X := .bin .sub .u8 (.iv 2) (.iv 4)
def x26_5 : X := .or (.bv 5) (.bv 3)
def v26 : ST := .tup [.agg [.ci .u8 x26_2, .cb x26_5], .agg [.ci .u8 (.bin .or .u8 (.ite (.cmp .gtr x26_2 (.lit (.ofNat 127))) (.lit (.ofNat 128)) (.lit (.ofNat 0))) (.bin .or .u8 (.ite (.cmp .neq (.bin .and .u64 (.iv 0) (.lit (.ofNat 64))) (.lit (.ofNat 0))) (.lit (.ofNat 64)) (.lit (.ofNat 0))) (.bin .or .u8 (.ite (.cmp .neq (.bin .and .u64 (.iv 0) (.lit (.ofNat 8))) (.lit (.ofNat 0))) (.lit (.ofNat 8)) (.lit (.ofNat 0))) (.bin .or .u8 (.ite (.cmp .neq (.bin .and .u64 (.iv 0) (.lit (.ofNat 4))) (.lit (.ofNat 0))) (.lit (.ofNat 4)) (.lit (.ofNat 0))) (.bin .or .u8 (.ite (.cmp .eql x26_2 (.lit (.ofNat 0))) (.lit (.ofNat 2)) (.lit (.ofNat 0))) (.ite (.cmp .geq (.iv 2) (.iv 4)) (.lit (.ofNat 1)) (.lit (.ofNat 0)))))))), .ci .u8 (.bin .or .u8 (.ite x26_5 (.lit (.ofNat 128)) (.lit (.ofNat 0))) (.bin .or .u8 (.ite (.cmp .neq (.bin .and .u64 (.iv 1) (.lit (.ofNat 64))) (.lit (.ofNat 0))) (.lit (.ofNat 64)) (.lit (.ofNat 0))) (.bin .or .u8 (.ite (.cmp .neq (.bin .and .u64 (.iv 1) (.lit (.ofNat 8))) (.lit (.ofNat 0))) (.lit (.ofNat 8)) (.lit (.ofNat 0))) (.bin .or .u8 (.ite (.cmp .neq (.bin .and .u64 (.iv 1) (.lit (.ofNat 4))) (.lit (.ofNat 0))) (.lit (.ofNat 4)) (.lit (.ofNat 0))) (.bin .or .u8 (.ite x26_5 (.lit (.ofNat 2)) (.lit (.ofNat 0))) (.ite x26_5 (.lit (.ofNat 1)) (.lit (.ofNat 0))))))))]]
def ss26 : List SV := [.agg [.ci .u8 (.iv 0), .ci .u8 (.iv 1)], .agg [.ci .u8 (.iv 2), .cb (.bv 3)], .agg [.ci .u8 (.iv 4), .cb (.bv 5)]]
def ks26 : List LK := [.i .u8, .i .u8, .i .u8, .b, .i .u8, .b]
theorem args26 : argTs Try.prog Try.f26.params.toList 0 = some (ss26, ks26) := by kernel_rfl
theorem tree26 : (tree Try.prog 12 (sumsIn sums32) 300 26 ss26 bare 0 ⟨ks26.map LK.rg, []⟩).small ⟨ks26.map LK.rg, []⟩ = some v26 := by kernel_rfl
def sums26 : List Sm := ⟨26, ss26, ks26, v26⟩ :: sums32
theorem sok26 : SumsOk Try.prog sums26 := sums_norm mixed sok32 args26 tree26 (by kernel_rfl)
def x28_2 : X := .bin .sub .u8 (.iv 2) (.iv 4)
def x28_34 : X := .or (.bv 5) (.bv 3)
def v28 : ST := .v (.agg [.ci .u8 (.bin .or .u8 (.ite (.cmp .gtr x28_2 (.lit (.ofNat 127))) (.lit (.ofNat 128)) (.lit (.ofNat 0))) (.bin .or .u8 (.ite (.cmp .neq (.bin .and .u64 (.iv 0) (.lit (.ofNat 64))) (.lit (.ofNat 0))) (.lit (.ofNat 64)) (.lit (.ofNat 0))) (.bin .or .u8 (.ite (.cmp .neq (.bin .and .u64 (.iv 0) (.lit (.ofNat 8))) (.lit (.ofNat 0))) (.lit (.ofNat 8)) (.lit (.ofNat 0))) (.bin .or .u8 (.ite (.cmp .neq (.bin .and .u64 (.iv 0) (.lit (.ofNat 4))) (.lit (.ofNat 0))) (.lit (.ofNat 4)) (.lit (.ofNat 0))) (.bin .or .u8 (.ite (.cmp .eql x28_2 (.lit (.ofNat 0))) (.lit (.ofNat 2)) (.lit (.ofNat 0))) (.ite (.cmp .geq (.iv 2) (.iv 4)) (.lit (.ofNat 1)) (.lit (.ofNat 0)))))))), .ci .u8 (.bin .or .u8 (.ite x28_34 (.lit (.ofNat 128)) (.lit (.ofNat 0))) (.bin .or .u8 (.ite (.cmp .neq (.bin .and .u64 (.iv 1) (.lit (.ofNat 64))) (.lit (.ofNat 0))) (.lit (.ofNat 64)) (.lit (.ofNat 0))) (.bin .or .u8 (.ite (.cmp .neq (.bin .and .u64 (.iv 1) (.lit (.ofNat 8))) (.lit (.ofNat 0))) (.lit (.ofNat 8)) (.lit (.ofNat 0))) (.bin .or .u8 (.ite (.cmp .neq (.bin .and .u64 (.iv 1) (.lit (.ofNat 4))) (.lit (.ofNat 0))) (.lit (.ofNat 4)) (.lit (.ofNat 0))) (.bin .or .u8 (.ite x28_34 (.lit (.ofNat 2)) (.lit (.ofNat 0))) (.ite x28_34 (.lit (.ofNat 1)) (.lit (.ofNat 0))))))))])
def ss28 : List SV := [.agg [.ci .u8 (.iv 0), .ci .u8 (.iv 1)], .agg [.ci .u8 (.iv 2), .cb (.bv 3)], .agg [.ci .u8 (.iv 4), .cb (.bv 5)]]
def ks28 : List LK := [.i .u8, .i .u8, .i .u8, .b, .i .u8, .b]
theorem args28 : argTs Try.prog Try.f28.params.toList 0 = some (ss28, ks28) := by kernel_rfl
theorem tree28 : (tree Try.prog 12 (sumsIn sums26) 300 28 ss28 bare 0 ⟨ks28.map LK.rg, []⟩).small ⟨ks28.map LK.rg, []⟩ = some v28 := by kernel_rfl
def sums28 : List Sm := ⟨28, ss28, ks28, v28⟩ :: sums26
theorem sok28 : SumsOk Try.prog sums28 := sums_norm mixed sok26 args28 tree28 (by kernel_rfl)
def v17 : ST := .v (.agg [.ci .u8 (.bin .or .u8 (.ite (.cmp .neq (.bin .and .u64 (.iv 0) (.lit (.ofNat 128))) (.lit (.ofNat 0))) (.lit (.ofNat 128)) (.lit (.ofNat 0))) (.bin .or .u8 (.ite (.cmp .neq (.bin .and .u64 (.iv 0) (.lit (.ofNat 64))) (.lit (.ofNat 0))) (.lit (.ofNat 64)) (.lit (.ofNat 0))) (.bin .or .u8 (.lit (.ofNat 32)) (.bin .or .u8 (.ite (.bv 2) (.lit (.ofNat 16)) (.lit (.ofNat 0))) (.bin .or .u8 (.ite (.cmp .neq (.bin .and .u64 (.iv 0) (.lit (.ofNat 8))) (.lit (.ofNat 0))) (.lit (.ofNat 8)) (.lit (.ofNat 0))) (.bin .or .u8 (.ite (.cmp .neq (.bin .and .u64 (.iv 0) (.lit (.ofNat 4))) (.lit (.ofNat 0))) (.lit (.ofNat 4)) (.lit (.ofNat 0))) (.bin .or .u8 (.ite (.cmp .neq (.bin .and .u64 (.iv 0) (.lit (.ofNat 2))) (.lit (.ofNat 0))) (.lit (.ofNat 2)) (.lit (.ofNat 0))) (.ite (.cmp .neq (.bin .and .u64 (.iv 0) (.lit (.ofNat 1))) (.lit (.ofNat 0))) (.lit (.ofNat 1)) (.lit (.ofNat 0)))))))))), .cb (.or (.cmp .neq (.bin .and .u64 (.iv 1) (.lit (.ofNat 128))) (.lit (.ofNat 0))) (.or (.cmp .neq (.bin .and .u64 (.iv 1) (.lit (.ofNat 64))) (.lit (.ofNat 0))) (.or (.cmp .neq (.bin .and .u64 (.iv 1) (.lit (.ofNat 8))) (.lit (.ofNat 0))) (.or (.cmp .neq (.bin .and .u64 (.iv 1) (.lit (.ofNat 4))) (.lit (.ofNat 0))) (.or (.cmp .neq (.bin .and .u64 (.iv 1) (.lit (.ofNat 2))) (.lit (.ofNat 0))) (.cmp .neq (.bin .and .u64 (.iv 1) (.lit (.ofNat 1))) (.lit (.ofNat 0))))))))])
def ss17 : List SV := [.agg [.ci .u8 (.iv 0), .ci .u8 (.iv 1)], .c (.cb (.bv 2))]
def ks17 : List LK := [.i .u8, .i .u8, .b]
theorem args17 : argTs Try.prog Try.f17.params.toList 0 = some (ss17, ks17) := by kernel_rfl
theorem tree17 : (tree Try.prog 12 (sumsIn sums28) 300 17 ss17 bare 0 ⟨ks17.map LK.rg, []⟩).small ⟨ks17.map LK.rg, []⟩ = some v17 := by kernel_rfl
def sums17 : List Sm := ⟨17, ss17, ks17, v17⟩ :: sums28
theorem sok17 : SumsOk Try.prog sums17 := sums_norm mixed sok28 args17 tree17 (by kernel_rfl)
def v21 : ST := .v (.c (.cb (.bl true)))
def ss21 : List SV := []
def ks21 : List LK := []
theorem args21 : argTs Try.prog Try.f21.params.toList 0 = some (ss21, ks21) := by kernel_rfl
theorem tree21 : (tree Try.prog 12 (sumsIn sums17) 300 21 ss21 bare 0 ⟨ks21.map LK.rg, []⟩).small ⟨ks21.map LK.rg, []⟩ = some v21 := by kernel_rfl
def sums21 : List Sm := ⟨21, ss21, ks21, v21⟩ :: sums17
theorem sok21 : SumsOk Try.prog sums21 := sums_norm mixed sok17 args21 tree21 (by kernel_rfl)
def ss5 : List SV := [.agg [.ci .u8 (.iv 0), .ci .u8 (.iv 1), .ci .u8 (.iv 2), .cb (.bv 3), .ci .u8 (.iv 4), .cb (.bv 5), .ci .u8 (.iv 6), .cb (.bv 7)]]
def ks5 : List LK := [.i .u8, .i .u8, .i .u8, .b, .i .u8, .b, .i .u8, .b]
theorem args5 : argTs Try.prog Try.f5.params.toList 0 = some (ss5, ks5) := by kernel_rfl
def K_ : Known := (⟨ks5.map LK.rg, []⟩ : Known)
theorem leaf_ : (tree Try.prog 12 (sumsIn sums21) 300 5 ss5 bare 0 K_).prove 300 100 K_ = true := by kernel_rfl
theorem plan5 : ∀ ρ, (⟨ks5.map LK.rg, []⟩ : Known).ok ρ → ∃ K d, K.ok ρ ∧ (tree Try.prog 12 (sumsIn sums21) 300 5 ss5 bare d K).prove 300 100 K = true := fun ρ h => ⟨K_, 0, h, leaf_⟩

def zeros : Env := ⟨fun _ => 0, fun _ => false, fun _ _ => 0, fun _ _ => false, fun _ => .bool false⟩
set_option maxRecDepth 100000 in
theorem lifted5 (os : Os) (started : os.Started) (H : Type) (enc : TypeId × Value → H) :
    ReturnsInHanded {} Try.checked os 5 .any (Rows.aluBackSpec.pre6 enc Try.prog Try.f5 Rows.aluBackRow.domain false) (Rows.aluBackSpec.post enc Try.prog Try.f5 false true false false) := by
  refine returnsInHanded_of_change (C := Try.checked) own started (by kernel_rfl) Try.func5
    (ChangeSpec.witness6 (enc := enc) (C := Try.checked) false ⟨#[], (ss5.map (SV.den zeros fun _ => 0)).toArray, []⟩ 8 (by kernel_rfl) (by kernel_rfl) (by kernel_rfl) (by kernel_rfl)) ?_
  intro W base args ds gs before hval0 hW _ _
  have hval : ∀ (j : Nat) t v, Try.f5.params[j]? = some t → args[j]? = some v → Value.okWide Try.prog W .any base t v := hval0
  have hW' := hW
  obtain ⟨p, q, hA0, hV, rfl, _, _⟩ := hW
  have hA : DataW.TrodAll enc Try.prog W 0 (fun _ => true) true Try.f5.params.toList args.toList ds p := hA0
  obtain ⟨rfl, rfl⟩ := trodVars_none hV
  have hA1 := hA
  rw [Try.params5] at hA1
  obtain ⟨v0, d0, e1, rfl, _⟩ := trodAll_one hA1
  refine (flat_plan (r := .any) (base := base) mixed sok21 args5 plan5 (w := W) (by rw [e1]; rfl) (fun j t v ht hv => hval j t v (by simpa using ht) hv)).mono fun e W' ⟨⟨v, he, hv⟩, hb⟩ => ?_
  subst hv
  subst he
  exact ⟨_, rfl, law_post (tb := 4) laid rfl (by rw [Try.params5]; intro t ht; simp at ht; first | (subst ht; exact ⟨by kernel_rfl, of_decide_eq_true (by kernel_rfl)⟩) | (rcases ht with rfl | rfl <;> exact ⟨by kernel_rfl, of_decide_eq_true (by kernel_rfl)⟩) | (rcases ht with rfl | rfl | rfl <;> exact ⟨by kernel_rfl, of_decide_eq_true (by kernel_rfl)⟩)) rfl Try.underlying4 hW' hA hb ⟨rfl, rfl, rfl⟩⟩

theorem aluBack_holds : Rows.AluBackSaid :=
  OpenClaim.holds_of_wide 5 Try.f5 rfl rfl rfl rfl rfl rfl rfl ⟨rfl, rfl, rfl, rfl, rfl⟩ rfl rfl rfl rfl rfl (by kernel_rfl) Try.func5 (by kernel_rfl)
    (of_decide_eq_true (by kernel_rfl)) (by unfold Func.isWrapper; first | (rw [if_pos (by decide +kernel)]; kernel_rfl) | (rw [if_neg (by decide +kernel)]; exact ⟨rfl, rfl⟩))
    (fun os started H enc _ => lifted5 os started H enc)
#print axioms aluBack_holds
end Go.Proofs.Ytdgjenlejalgeaa
