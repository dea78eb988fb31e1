/- For every input AluAdds answers true. -/
import Derived.Test.YtdgjenlejalgeaaRows
import Derived.Test.YtdgjenlejalgeaaSx21
namespace Go.Proofs.Ytdgjenlejalgeaa
open Go.ChangeShapes Go.WideShapes Go.ChangeAt Go.RowKit Go.Sx

theorem own : ownKnob Try.prog.godebug = none := by kernel_rfl
theorem laid : laidOutB Try.prog = true := by kernel_rfl
theorem mixed : Try.prog.follows .mixedOrders = true := by kernel_rfl

def x11_4 : X := .cmp .neq (.bin .and .u64 (.iv 2) (.lit (.ofNat 128))) (.lit (.ofNat 0))
def x11_12 : X := .cmp .neq (.bin .and .u64 (.iv 2) (.lit (.ofNat 64))) (.lit (.ofNat 0))
def x11_19 : X := .cmp .neq (.bin .and .u64 (.iv 2) (.lit (.ofNat 8))) (.lit (.ofNat 0))
def x11_26 : X := .cmp .neq (.bin .and .u64 (.iv 2) (.lit (.ofNat 4))) (.lit (.ofNat 0))
def x11_33 : X := .cmp .neq (.bin .and .u64 (.iv 2) (.lit (.ofNat 2))) (.lit (.ofNat 0))
def x11_40 : X := .cmp .neq (.bin .and .u64 (.iv 2) (.lit (.ofNat 1))) (.lit (.ofNat 0))
def v11 : ST := .v (.agg [.ci .u8 (.ite (.cmp .gtr (.bin .or .u8 (.ite (.and x11_4 (.cmp .neq (.bin .and .u64 (.iv 0) (.lit (.ofNat 128))) (.lit (.ofNat 0)))) (.lit (.ofNat 128)) (.lit (.ofNat 0))) (.bin .or .u8 (.ite (.and x11_12 (.cmp .neq (.bin .and .u64 (.iv 0) (.lit (.ofNat 64))) (.lit (.ofNat 0)))) (.lit (.ofNat 64)) (.lit (.ofNat 0))) (.bin .or .u8 (.ite (.and x11_19 (.cmp .neq (.bin .and .u64 (.iv 0) (.lit (.ofNat 8))) (.lit (.ofNat 0)))) (.lit (.ofNat 8)) (.lit (.ofNat 0))) (.bin .or .u8 (.ite (.and x11_26 (.cmp .neq (.bin .and .u64 (.iv 0) (.lit (.ofNat 4))) (.lit (.ofNat 0)))) (.lit (.ofNat 4)) (.lit (.ofNat 0))) (.bin .or .u8 (.ite (.and x11_33 (.cmp .neq (.bin .and .u64 (.iv 0) (.lit (.ofNat 2))) (.lit (.ofNat 0)))) (.lit (.ofNat 2)) (.lit (.ofNat 0))) (.ite (.and x11_40 (.cmp .neq (.bin .and .u64 (.iv 0) (.lit (.ofNat 1))) (.lit (.ofNat 0)))) (.lit (.ofNat 1)) (.lit (.ofNat 0)))))))) (.lit (.ofNat 0))) (.lit (.ofNat 1)) (.lit (.ofNat 0))), .cb (.cmp .gtr (.bin .or .u8 (.ite (.and x11_4 (.cmp .neq (.bin .and .u64 (.iv 1) (.lit (.ofNat 128))) (.lit (.ofNat 0)))) (.lit (.ofNat 128)) (.lit (.ofNat 0))) (.bin .or .u8 (.ite (.and x11_12 (.cmp .neq (.bin .and .u64 (.iv 1) (.lit (.ofNat 64))) (.lit (.ofNat 0)))) (.lit (.ofNat 64)) (.lit (.ofNat 0))) (.bin .or .u8 (.ite (.and x11_19 (.cmp .neq (.bin .and .u64 (.iv 1) (.lit (.ofNat 8))) (.lit (.ofNat 0)))) (.lit (.ofNat 8)) (.lit (.ofNat 0))) (.bin .or .u8 (.ite (.and x11_26 (.cmp .neq (.bin .and .u64 (.iv 1) (.lit (.ofNat 4))) (.lit (.ofNat 0)))) (.lit (.ofNat 4)) (.lit (.ofNat 0))) (.bin .or .u8 (.ite (.and x11_33 (.cmp .neq (.bin .and .u64 (.iv 1) (.lit (.ofNat 2))) (.lit (.ofNat 0)))) (.lit (.ofNat 2)) (.lit (.ofNat 0))) (.ite (.and x11_40 (.cmp .neq (.bin .and .u64 (.iv 1) (.lit (.ofNat 1))) (.lit (.ofNat 0)))) (.lit (.ofNat 1)) (.lit (.ofNat 0)))))))) (.lit (.ofNat 0)))])
def ss11 : List SV := [.agg [.ci .u8 (.iv 0), .ci .u8 (.iv 1)], .c (.ci .u8 (.iv 2))]
def ks11 : List LK := [.i .u8, .i .u8, .i .u8]
theorem args11 : argTs Try.prog Try.f11.params.toList 0 = some (ss11, ks11) := by kernel_rfl
theorem tree11 : (tree Try.prog 12 (sumsIn []) 300 11 ss11 bare 0 ⟨ks11.map LK.rg, []⟩).small ⟨ks11.map LK.rg, []⟩ = some v11 := by kernel_rfl
def sums11 : List Sm := ⟨11, ss11, ks11, v11⟩ :: []
theorem sok11 : SumsOk Try.prog sums11 := sums_norm mixed sums_nil args11 tree11 (by kernel_rfl)
def v9 : ST := .v (.agg [.ci .u8 (.bin .or .u8 (.ite (.cmp .neq (.bin .and .u64 (.iv 0) (.lit (.ofNat 128))) (.lit (.ofNat 0))) (.lit (.ofNat 128)) (.lit (.ofNat 0))) (.bin .or .u8 (.ite (.cmp .neq (.bin .and .u64 (.iv 0) (.lit (.ofNat 64))) (.lit (.ofNat 0))) (.lit (.ofNat 64)) (.lit (.ofNat 0))) (.bin .or .u8 (.ite (.cmp .neq (.bin .and .u64 (.iv 0) (.lit (.ofNat 8))) (.lit (.ofNat 0))) (.lit (.ofNat 8)) (.lit (.ofNat 0))) (.bin .or .u8 (.ite (.cmp .neq (.bin .and .u64 (.iv 0) (.lit (.ofNat 4))) (.lit (.ofNat 0))) (.lit (.ofNat 4)) (.lit (.ofNat 0))) (.bin .or .u8 (.ite (.cmp .neq (.bin .and .u64 (.iv 0) (.lit (.ofNat 2))) (.lit (.ofNat 0))) (.lit (.ofNat 2)) (.lit (.ofNat 0))) (.ite (.cmp .neq (.bin .and .u64 (.iv 0) (.lit (.ofNat 1))) (.lit (.ofNat 0))) (.lit (.ofNat 1)) (.lit (.ofNat 0)))))))), .ci .u8 (.bin .or .u8 (.ite (.cmp .neq (.bin .and .u64 (.iv 1) (.lit (.ofNat 128))) (.lit (.ofNat 0))) (.lit (.ofNat 128)) (.lit (.ofNat 0))) (.bin .or .u8 (.ite (.cmp .neq (.bin .and .u64 (.iv 1) (.lit (.ofNat 64))) (.lit (.ofNat 0))) (.lit (.ofNat 64)) (.lit (.ofNat 0))) (.bin .or .u8 (.ite (.cmp .neq (.bin .and .u64 (.iv 1) (.lit (.ofNat 8))) (.lit (.ofNat 0))) (.lit (.ofNat 8)) (.lit (.ofNat 0))) (.bin .or .u8 (.ite (.cmp .neq (.bin .and .u64 (.iv 1) (.lit (.ofNat 4))) (.lit (.ofNat 0))) (.lit (.ofNat 4)) (.lit (.ofNat 0))) (.bin .or .u8 (.ite (.cmp .neq (.bin .and .u64 (.iv 1) (.lit (.ofNat 2))) (.lit (.ofNat 0))) (.lit (.ofNat 2)) (.lit (.ofNat 0))) (.ite (.cmp .neq (.bin .and .u64 (.iv 1) (.lit (.ofNat 1))) (.lit (.ofNat 0))) (.lit (.ofNat 1)) (.lit (.ofNat 0))))))))])
def ss9 : List SV := [.agg [.ci .u8 (.iv 0), .ci .u8 (.iv 1)]]
def ks9 : List LK := [.i .u8, .i .u8]
theorem args9 : argTs Try.prog Try.f9.params.toList 0 = some (ss9, ks9) := by kernel_rfl
theorem tree9 : (tree Try.prog 12 (sumsIn sums11) 300 9 ss9 bare 0 ⟨ks9.map LK.rg, []⟩).small ⟨ks9.map LK.rg, []⟩ = some v9 := by kernel_rfl
def sums9 : List Sm := ⟨9, ss9, ks9, v9⟩ :: sums11
theorem sok9 : SumsOk Try.prog sums9 := sums_norm mixed sok11 args9 tree9 (by kernel_rfl)
def x13_2 : X := .cmp .neq (.iv 3) (.lit (.ofNat 0))
def x13_6 : X := .cmp .neq (.bin .and .u64 (.iv 2) (.lit (.ofNat 128))) (.lit (.ofNat 0))
def x13_9 : X := .cmp .neq (.bin .and .u64 (.iv 0) (.lit (.ofNat 128))) (.lit (.ofNat 0))
def x13_11 : X := .not x13_6
def x13_17 : X := .cmp .neq (.bin .and .u64 (.iv 2) (.lit (.ofNat 64))) (.lit (.ofNat 0))
def x13_19 : X := .cmp .neq (.bin .and .u64 (.iv 0) (.lit (.ofNat 64))) (.lit (.ofNat 0))
def x13_21 : X := .not x13_17
def x13_27 : X := .cmp .neq (.bin .and .u64 (.iv 2) (.lit (.ofNat 8))) (.lit (.ofNat 0))
def x13_29 : X := .cmp .neq (.bin .and .u64 (.iv 0) (.lit (.ofNat 8))) (.lit (.ofNat 0))
def x13_31 : X := .not x13_27
def x13_37 : X := .cmp .neq (.bin .and .u64 (.iv 2) (.lit (.ofNat 4))) (.lit (.ofNat 0))
def x13_39 : X := .cmp .neq (.bin .and .u64 (.iv 0) (.lit (.ofNat 4))) (.lit (.ofNat 0))
def x13_41 : X := .not x13_37
def x13_47 : X := .cmp .neq (.bin .and .u64 (.iv 2) (.lit (.ofNat 2))) (.lit (.ofNat 0))
def x13_49 : X := .cmp .neq (.bin .and .u64 (.iv 0) (.lit (.ofNat 2))) (.lit (.ofNat 0))
def x13_51 : X := .not x13_47
def x13_57 : X := .cmp .neq (.bin .and .u64 (.iv 2) (.lit (.ofNat 1))) (.lit (.ofNat 0))
def x13_59 : X := .cmp .neq (.bin .and .u64 (.iv 0) (.lit (.ofNat 1))) (.lit (.ofNat 0))
def x13_61 : X := .not x13_57
def x13_73 : X := .cmp .neq (.bin .and .u64 (.iv 1) (.lit (.ofNat 128))) (.lit (.ofNat 0))
def x13_79 : X := .cmp .neq (.bin .and .u64 (.iv 1) (.lit (.ofNat 64))) (.lit (.ofNat 0))
def x13_85 : X := .cmp .neq (.bin .and .u64 (.iv 1) (.lit (.ofNat 8))) (.lit (.ofNat 0))
def x13_91 : X := .cmp .neq (.bin .and .u64 (.iv 1) (.lit (.ofNat 4))) (.lit (.ofNat 0))
def x13_97 : X := .cmp .neq (.bin .and .u64 (.iv 1) (.lit (.ofNat 2))) (.lit (.ofNat 0))
def x13_103 : X := .cmp .neq (.bin .and .u64 (.iv 1) (.lit (.ofNat 1))) (.lit (.ofNat 0))
def v13 : ST := .v (.agg [.ci .u8 (.bin .or .u8 (.ite (.ite x13_2 (.or x13_6 x13_9) (.and x13_11 x13_9)) (.lit (.ofNat 128)) (.lit (.ofNat 0))) (.bin .or .u8 (.ite (.ite x13_2 (.or x13_17 x13_19) (.and x13_21 x13_19)) (.lit (.ofNat 64)) (.lit (.ofNat 0))) (.bin .or .u8 (.ite (.ite x13_2 (.or x13_27 x13_29) (.and x13_31 x13_29)) (.lit (.ofNat 8)) (.lit (.ofNat 0))) (.bin .or .u8 (.ite (.ite x13_2 (.or x13_37 x13_39) (.and x13_41 x13_39)) (.lit (.ofNat 4)) (.lit (.ofNat 0))) (.bin .or .u8 (.ite (.ite x13_2 (.or x13_47 x13_49) (.and x13_51 x13_49)) (.lit (.ofNat 2)) (.lit (.ofNat 0))) (.ite (.ite x13_2 (.or x13_57 x13_59) (.and x13_61 x13_59)) (.lit (.ofNat 1)) (.lit (.ofNat 0)))))))), .ci .u8 (.bin .or .u8 (.ite (.ite (.bv 4) (.or x13_6 x13_73) (.and x13_11 x13_73)) (.lit (.ofNat 128)) (.lit (.ofNat 0))) (.bin .or .u8 (.ite (.ite (.bv 4) (.or x13_17 x13_79) (.and x13_21 x13_79)) (.lit (.ofNat 64)) (.lit (.ofNat 0))) (.bin .or .u8 (.ite (.ite (.bv 4) (.or x13_27 x13_85) (.and x13_31 x13_85)) (.lit (.ofNat 8)) (.lit (.ofNat 0))) (.bin .or .u8 (.ite (.ite (.bv 4) (.or x13_37 x13_91) (.and x13_41 x13_91)) (.lit (.ofNat 4)) (.lit (.ofNat 0))) (.bin .or .u8 (.ite (.ite (.bv 4) (.or x13_47 x13_97) (.and x13_51 x13_97)) (.lit (.ofNat 2)) (.lit (.ofNat 0))) (.ite (.ite (.bv 4) (.or x13_57 x13_103) (.and x13_61 x13_103)) (.lit (.ofNat 1)) (.lit (.ofNat 0))))))))])
def ss13 : List SV := [.agg [.ci .u8 (.iv 0), .ci .u8 (.iv 1)], .c (.ci .u8 (.iv 2)), .agg [.ci .u8 (.iv 3), .cb (.bv 4)]]
def ks13 : List LK := [.i .u8, .i .u8, .i .u8, .i .u8, .b]
theorem args13 : argTs Try.prog Try.f13.params.toList 0 = some (ss13, ks13) := by kernel_rfl
theorem tree13 : (tree Try.prog 12 (sumsIn sums9) 300 13 ss13 bare 0 ⟨ks13.map LK.rg, []⟩).small ⟨ks13.map LK.rg, []⟩ = some v13 := by kernel_rfl
def sums13 : List Sm := ⟨13, ss13, ks13, v13⟩ :: sums9
theorem sok13 : SumsOk Try.prog sums13 := sums_norm mixed sok9 args13 tree13 (by kernel_rfl)
def v15 : ST := .v (.agg [.ci .u8 (.bin .or .u8 (.ite (.cmp .gtr (.iv 2) (.lit (.ofNat 127))) (.lit (.ofNat 128)) (.lit (.ofNat 0))) (.bin .or .u8 (.ite (.cmp .neq (.bin .and .u64 (.iv 0) (.lit (.ofNat 64))) (.lit (.ofNat 0))) (.lit (.ofNat 64)) (.lit (.ofNat 0))) (.bin .or .u8 (.ite (.cmp .neq (.bin .and .u64 (.iv 0) (.lit (.ofNat 8))) (.lit (.ofNat 0))) (.lit (.ofNat 8)) (.lit (.ofNat 0))) (.bin .or .u8 (.ite (.cmp .neq (.bin .and .u64 (.iv 0) (.lit (.ofNat 4))) (.lit (.ofNat 0))) (.lit (.ofNat 4)) (.lit (.ofNat 0))) (.bin .or .u8 (.ite (.cmp .eql (.iv 2) (.lit (.ofNat 0))) (.lit (.ofNat 2)) (.lit (.ofNat 0))) (.ite (.cmp .neq (.bin .and .u64 (.iv 0) (.lit (.ofNat 1))) (.lit (.ofNat 0))) (.lit (.ofNat 1)) (.lit (.ofNat 0)))))))), .ci .u8 (.bin .or .u8 (.ite (.bv 3) (.lit (.ofNat 128)) (.lit (.ofNat 0))) (.bin .or .u8 (.ite (.cmp .neq (.bin .and .u64 (.iv 1) (.lit (.ofNat 64))) (.lit (.ofNat 0))) (.lit (.ofNat 64)) (.lit (.ofNat 0))) (.bin .or .u8 (.ite (.cmp .neq (.bin .and .u64 (.iv 1) (.lit (.ofNat 8))) (.lit (.ofNat 0))) (.lit (.ofNat 8)) (.lit (.ofNat 0))) (.bin .or .u8 (.ite (.cmp .neq (.bin .and .u64 (.iv 1) (.lit (.ofNat 4))) (.lit (.ofNat 0))) (.lit (.ofNat 4)) (.lit (.ofNat 0))) (.bin .or .u8 (.ite (.bv 3) (.lit (.ofNat 2)) (.lit (.ofNat 0))) (.ite (.cmp .neq (.bin .and .u64 (.iv 1) (.lit (.ofNat 1))) (.lit (.ofNat 0))) (.lit (.ofNat 1)) (.lit (.ofNat 0))))))))])
def ss15 : List SV := [.agg [.ci .u8 (.iv 0), .ci .u8 (.iv 1)], .agg [.ci .u8 (.iv 2), .cb (.bv 3)]]
def ks15 : List LK := [.i .u8, .i .u8, .i .u8, .b]
theorem args15 : argTs Try.prog Try.f15.params.toList 0 = some (ss15, ks15) := by kernel_rfl
theorem tree15 : (tree Try.prog 12 (sumsIn sums13) 300 15 ss15 bare 0 ⟨ks15.map LK.rg, []⟩).small ⟨ks15.map LK.rg, []⟩ = some v15 := by kernel_rfl
def sums15 : List Sm := ⟨15, ss15, ks15, v15⟩ :: sums13
theorem sok15 : SumsOk Try.prog sums15 := sums_norm mixed sok13 args15 tree15 (by kernel_rfl)
def x22_9 : X := .bin .add .u64 (.bin .add .u64 (.iv 2) (.iv 4)) (.ite (.cmp .neq (.bin .and .u64 (.iv 0) (.lit (.ofNat 1))) (.lit (.ofNat 0))) (.lit (.ofNat 1)) (.lit (.ofNat 0)))
def x22_10 : X := .wrap .u8 x22_9
def x22_17 : X := .or (.bv 5) (.or (.bv 3) (.cmp .neq (.bin .and .u64 (.iv 1) (.lit (.ofNat 1))) (.lit (.ofNat 0))))
def x22_25 : X := .cmp .neq (.bin .and .u64 (.iv 2) (.lit (.ofNat 128))) (.lit (.ofNat 0))
def x22_33 : X := .cmp .neq (.bin .and .u64 (.iv 2) (.lit (.ofNat 64))) (.lit (.ofNat 0))
def x22_41 : X := .cmp .neq (.bin .and .u64 (.iv 2) (.lit (.ofNat 32))) (.lit (.ofNat 0))
def x22_49 : X := .cmp .neq (.bin .and .u64 (.iv 2) (.lit (.ofNat 16))) (.lit (.ofNat 0))
def x22_57 : X := .cmp .neq (.bin .and .u64 (.iv 2) (.lit (.ofNat 8))) (.lit (.ofNat 0))
def x22_65 : X := .cmp .neq (.bin .and .u64 (.iv 2) (.lit (.ofNat 4))) (.lit (.ofNat 0))
def x22_73 : X := .cmp .neq (.bin .and .u64 (.iv 2) (.lit (.ofNat 2))) (.lit (.ofNat 0))
def x22_80 : X := .cmp .neq (.bin .and .u64 (.iv 2) (.lit (.ofNat 1))) (.lit (.ofNat 0))
def x22_93 : X := .bin .and .u8 (.bin .and .u8 (.bin .or .u8 (.ite (.ite (.cmp .neq (.bin .and .u64 (.iv 4) (.lit (.ofNat 128))) (.lit (.ofNat 0))) x22_25 (.not x22_25)) (.lit (.ofNat 128)) (.lit (.ofNat 0))) (.bin .or .u8 (.ite (.ite (.cmp .neq (.bin .and .u64 (.iv 4) (.lit (.ofNat 64))) (.lit (.ofNat 0))) x22_33 (.not x22_33)) (.lit (.ofNat 64)) (.lit (.ofNat 0))) (.bin .or .u8 (.ite (.ite (.cmp .neq (.bin .and .u64 (.iv 4) (.lit (.ofNat 32))) (.lit (.ofNat 0))) x22_41 (.not x22_41)) (.lit (.ofNat 32)) (.lit (.ofNat 0))) (.bin .or .u8 (.ite (.ite (.cmp .neq (.bin .and .u64 (.iv 4) (.lit (.ofNat 16))) (.lit (.ofNat 0))) x22_49 (.not x22_49)) (.lit (.ofNat 16)) (.lit (.ofNat 0))) (.bin .or .u8 (.ite (.ite (.cmp .neq (.bin .and .u64 (.iv 4) (.lit (.ofNat 8))) (.lit (.ofNat 0))) x22_57 (.not x22_57)) (.lit (.ofNat 8)) (.lit (.ofNat 0))) (.bin .or .u8 (.ite (.ite (.cmp .neq (.bin .and .u64 (.iv 4) (.lit (.ofNat 4))) (.lit (.ofNat 0))) x22_65 (.not x22_65)) (.lit (.ofNat 4)) (.lit (.ofNat 0))) (.bin .or .u8 (.ite (.ite (.cmp .neq (.bin .and .u64 (.iv 4) (.lit (.ofNat 2))) (.lit (.ofNat 0))) x22_73 (.not x22_73)) (.lit (.ofNat 2)) (.lit (.ofNat 0))) (.ite (.ite (.cmp .neq (.bin .and .u64 (.iv 4) (.lit (.ofNat 1))) (.lit (.ofNat 0))) x22_80 (.not x22_80)) (.lit (.ofNat 1)) (.lit (.ofNat 0)))))))))) (.bin .xor .u8 (.iv 2) x22_10)) (.lit (.ofNat 128))
def v22 : ST := .tup [.agg [.ci .u8 x22_10, .cb x22_17], .agg [.ci .u8 (.bin .or .u8 (.ite (.cmp .gtr x22_10 (.lit (.ofNat 127))) (.lit (.ofNat 128)) (.lit (.ofNat 0))) (.bin .or .u8 (.ite (.cmp .gtr x22_93 (.lit (.ofNat 0))) (.lit (.ofNat 64)) (.lit (.ofNat 0))) (.bin .or .u8 (.ite (.cmp .neq (.bin .and .u64 (.iv 0) (.lit (.ofNat 8))) (.lit (.ofNat 0))) (.lit (.ofNat 8)) (.lit (.ofNat 0))) (.bin .or .u8 (.ite (.cmp .neq (.bin .and .u64 (.iv 0) (.lit (.ofNat 4))) (.lit (.ofNat 0))) (.lit (.ofNat 4)) (.lit (.ofNat 0))) (.bin .or .u8 (.ite (.cmp .eql x22_10 (.lit (.ofNat 0))) (.lit (.ofNat 2)) (.lit (.ofNat 0))) (.ite (.cmp .gtr x22_9 (.lit (.ofNat 255))) (.lit (.ofNat 1)) (.lit (.ofNat 0)))))))), .ci .u8 (.bin .or .u8 (.ite x22_17 (.lit (.ofNat 128)) (.lit (.ofNat 0))) (.bin .or .u8 (.ite x22_17 (.lit (.ofNat 64)) (.lit (.ofNat 0))) (.bin .or .u8 (.ite (.cmp .neq (.bin .and .u64 (.iv 1) (.lit (.ofNat 8))) (.lit (.ofNat 0))) (.lit (.ofNat 8)) (.lit (.ofNat 0))) (.bin .or .u8 (.ite (.cmp .neq (.bin .and .u64 (.iv 1) (.lit (.ofNat 4))) (.lit (.ofNat 0))) (.lit (.ofNat 4)) (.lit (.ofNat 0))) (.bin .or .u8 (.ite x22_17 (.lit (.ofNat 2)) (.lit (.ofNat 0))) (.ite x22_17 (.lit (.ofNat 1)) (.lit (.ofNat 0))))))))]]
def ss22 : List SV := [.agg [.ci .u8 (.iv 0), .ci .u8 (.iv 1)], .agg [.ci .u8 (.iv 2), .cb (.bv 3)], .agg [.ci .u8 (.iv 4), .cb (.bv 5)]]
def ks22 : List LK := [.i .u8, .i .u8, .i .u8, .b, .i .u8, .b]
theorem args22 : argTs Try.prog Try.f22.params.toList 0 = some (ss22, ks22) := by kernel_rfl
theorem tree22 : (tree Try.prog 12 (sumsIn sums15) 300 22 ss22 bare 0 ⟨ks22.map LK.rg, []⟩).small ⟨ks22.map LK.rg, []⟩ = some v22 := by kernel_rfl
def sums22 : List Sm := ⟨22, ss22, ks22, v22⟩ :: sums15
theorem sok22 : SumsOk Try.prog sums22 := sums_norm mixed sok15 args22 tree22 (by kernel_rfl)
def v41 : ST := .v (.c (.ci .u8 (.bin .or .u8 (.ite (.cmp .neq (.bin .and .u64 (.iv 0) (.lit (.ofNat 128))) (.lit (.ofNat 0))) (.lit (.ofNat 128)) (.lit (.ofNat 0))) (.bin .or .u8 (.ite (.cmp .neq (.bin .and .u64 (.iv 0) (.lit (.ofNat 64))) (.lit (.ofNat 0))) (.lit (.ofNat 64)) (.lit (.ofNat 0))) (.bin .or .u8 (.ite (.cmp .neq (.bin .and .u64 (.iv 0) (.lit (.ofNat 8))) (.lit (.ofNat 0))) (.lit (.ofNat 8)) (.lit (.ofNat 0))) (.bin .or .u8 (.ite (.cmp .neq (.bin .and .u64 (.iv 0) (.lit (.ofNat 4))) (.lit (.ofNat 0))) (.lit (.ofNat 4)) (.lit (.ofNat 0))) (.bin .or .u8 (.ite (.cmp .neq (.bin .and .u64 (.iv 0) (.lit (.ofNat 2))) (.lit (.ofNat 0))) (.lit (.ofNat 2)) (.lit (.ofNat 0))) (.ite (.cmp .neq (.bin .and .u64 (.iv 0) (.lit (.ofNat 1))) (.lit (.ofNat 0))) (.lit (.ofNat 1)) (.lit (.ofNat 0))))))))))
def ss41 : List SV := [.c (.ci .u8 (.iv 0))]
def ks41 : List LK := [.i .u8]
theorem args41 : argTs Try.prog Try.f41.params.toList 0 = some (ss41, ks41) := by kernel_rfl
theorem tree41 : (tree Try.prog 12 (sumsIn sums22) 300 41 ss41 bare 0 ⟨ks41.map LK.rg, []⟩).small ⟨ks41.map LK.rg, []⟩ = some v41 := by kernel_rfl
def sums41 : List Sm := ⟨41, ss41, ks41, v41⟩ :: sums22
theorem sok41 : SumsOk Try.prog sums41 := sums_norm mixed sok22 args41 tree41 (by kernel_rfl)
def x42_4 : X := .cmp .neq (.bin .and .u64 (.iv 1) (.lit (.ofNat 1))) (.lit (.ofNat 0))
def x42_7 : X := .cmp .neq (.bin .and .u64 (.iv 0) (.lit (.ofNat 1))) (.lit (.ofNat 0))
def x42_14 : X := .cmp .neq (.bin .and .u64 (.iv 1) (.lit (.ofNat 2))) (.lit (.ofNat 0))
def x42_16 : X := .cmp .neq (.bin .and .u64 (.iv 0) (.lit (.ofNat 2))) (.lit (.ofNat 0))
def x42_23 : X := .cmp .neq (.bin .and .u64 (.iv 1) (.lit (.ofNat 4))) (.lit (.ofNat 0))
def x42_25 : X := .cmp .neq (.bin .and .u64 (.iv 0) (.lit (.ofNat 4))) (.lit (.ofNat 0))
def x42_32 : X := .cmp .neq (.bin .and .u64 (.iv 1) (.lit (.ofNat 8))) (.lit (.ofNat 0))
def x42_34 : X := .cmp .neq (.bin .and .u64 (.iv 0) (.lit (.ofNat 8))) (.lit (.ofNat 0))
def x42_41 : X := .cmp .neq (.bin .and .u64 (.iv 1) (.lit (.ofNat 16))) (.lit (.ofNat 0))
def x42_43 : X := .cmp .neq (.bin .and .u64 (.iv 0) (.lit (.ofNat 16))) (.lit (.ofNat 0))
def x42_53 : X := .cmp .neq (.bin .and .u64 (.iv 1) (.lit (.ofNat 64))) (.lit (.ofNat 0))
def x42_56 : X := .cmp .neq (.bin .and .u64 (.iv 1) (.lit (.ofNat 32))) (.lit (.ofNat 0))
def x42_58 : X := .cmp .neq (.bin .and .u64 (.iv 0) (.lit (.ofNat 128))) (.lit (.ofNat 0))
def x42_60 : X := .cmp .neq (.bin .and .u64 (.iv 0) (.lit (.ofNat 64))) (.lit (.ofNat 0))
def x42_62 : X := .cmp .neq (.bin .and .u64 (.iv 0) (.lit (.ofNat 32))) (.lit (.ofNat 0))
def x42_63 : X := .or x42_60 x42_62
def x42_83 : X := .or (.and x42_4 x42_7) (.and (.or (.not x42_4) (.not x42_7)) (.or (.and x42_14 x42_16) (.and (.or (.not x42_14) (.not x42_16)) (.or (.and x42_23 x42_25) (.and (.or (.not x42_23) (.not x42_25)) (.or (.and x42_32 x42_34) (.and (.or (.not x42_32) (.not x42_34)) (.or (.and x42_41 x42_43) (.and (.or (.not x42_41) (.not x42_43)) (.ite (.cmp .neq (.bin .and .u64 (.iv 1) (.lit (.ofNat 128))) (.lit (.ofNat 0))) (.ite x42_53 (.ite x42_56 (.or x42_58 x42_63) (.or x42_58 x42_60)) (.ite x42_56 (.or x42_58 x42_62) x42_58)) (.ite x42_53 (.ite x42_56 x42_63 x42_60) (.and x42_56 x42_62))))))))))))
def v42 : ST := .v (.c (.cb x42_83))
def ss42 : List SV := [.c (.ci .u8 (.iv 0)), .c (.ci .u8 (.iv 1))]
def ks42 : List LK := [.i .u8, .i .u8]
theorem args42 : argTs Try.prog Try.f42.params.toList 0 = some (ss42, ks42) := by kernel_rfl
theorem tree42 : (tree Try.prog 12 (sumsIn sums41) 300 42 ss42 bare 0 ⟨ks42.map LK.rg, []⟩).small ⟨ks42.map LK.rg, []⟩ = some v42 := by kernel_rfl
def sums42 : List Sm := ⟨42, ss42, ks42, v42⟩ :: sums41
theorem sok42 : SumsOk Try.prog sums42 := sums_norm mixed sok41 args42 tree42 (by kernel_rfl)
def x12_4 : X := .cmp .neq (.bin .and .u64 (.iv 2) (.lit (.ofNat 1))) (.lit (.ofNat 0))
def x12_7 : X := .cmp .neq (.bin .and .u64 (.iv 0) (.lit (.ofNat 1))) (.lit (.ofNat 0))
def x12_9 : X := .not x12_4
def x12_14 : X := .cmp .neq (.bin .and .u64 (.iv 2) (.lit (.ofNat 2))) (.lit (.ofNat 0))
def x12_16 : X := .cmp .neq (.bin .and .u64 (.iv 0) (.lit (.ofNat 2))) (.lit (.ofNat 0))
def x12_18 : X := .not x12_14
def x12_23 : X := .cmp .neq (.bin .and .u64 (.iv 2) (.lit (.ofNat 4))) (.lit (.ofNat 0))
def x12_25 : X := .cmp .neq (.bin .and .u64 (.iv 0) (.lit (.ofNat 4))) (.lit (.ofNat 0))
def x12_27 : X := .not x12_23
def x12_32 : X := .cmp .neq (.bin .and .u64 (.iv 2) (.lit (.ofNat 128))) (.lit (.ofNat 0))
def x12_35 : X := .cmp .neq (.bin .and .u64 (.iv 2) (.lit (.ofNat 64))) (.lit (.ofNat 0))
def x12_38 : X := .cmp .neq (.bin .and .u64 (.iv 2) (.lit (.ofNat 8))) (.lit (.ofNat 0))
def x12_40 : X := .cmp .neq (.bin .and .u64 (.iv 0) (.lit (.ofNat 128))) (.lit (.ofNat 0))
def x12_42 : X := .cmp .neq (.bin .and .u64 (.iv 0) (.lit (.ofNat 64))) (.lit (.ofNat 0))
def x12_44 : X := .cmp .neq (.bin .and .u64 (.iv 0) (.lit (.ofNat 8))) (.lit (.ofNat 0))
def x12_45 : X := .or x12_42 x12_44
def x12_65 : X := .cmp .neq (.bin .and .u64 (.iv 1) (.lit (.ofNat 1))) (.lit (.ofNat 0))
def x12_70 : X := .cmp .neq (.bin .and .u64 (.iv 1) (.lit (.ofNat 2))) (.lit (.ofNat 0))
def x12_75 : X := .cmp .neq (.bin .and .u64 (.iv 1) (.lit (.ofNat 4))) (.lit (.ofNat 0))
def x12_80 : X := .cmp .neq (.bin .and .u64 (.iv 1) (.lit (.ofNat 128))) (.lit (.ofNat 0))
def x12_82 : X := .cmp .neq (.bin .and .u64 (.iv 1) (.lit (.ofNat 64))) (.lit (.ofNat 0))
def x12_84 : X := .cmp .neq (.bin .and .u64 (.iv 1) (.lit (.ofNat 8))) (.lit (.ofNat 0))
def x12_85 : X := .or x12_82 x12_84
def v12 : ST := .v (.agg [.ci .u8 (.ite (.or (.and x12_4 x12_7) (.and (.or x12_9 (.not x12_7)) (.or (.and x12_14 x12_16) (.and (.or x12_18 (.not x12_16)) (.or (.and x12_23 x12_25) (.and (.or x12_27 (.not x12_25)) (.ite x12_32 (.ite x12_35 (.ite x12_38 (.or x12_40 x12_45) (.or x12_40 x12_42)) (.ite x12_38 (.or x12_40 x12_44) x12_40)) (.ite x12_35 (.ite x12_38 x12_45 x12_42) (.and x12_38 x12_44))))))))) (.lit (.ofNat 1)) (.lit (.ofNat 0))), .cb (.or (.and x12_4 x12_65) (.and (.or x12_9 (.not x12_65)) (.or (.and x12_14 x12_70) (.and (.or x12_18 (.not x12_70)) (.or (.and x12_23 x12_75) (.and (.or x12_27 (.not x12_75)) (.ite x12_32 (.ite x12_35 (.ite x12_38 (.or x12_80 x12_85) (.or x12_80 x12_82)) (.ite x12_38 (.or x12_80 x12_84) x12_80)) (.ite x12_35 (.ite x12_38 x12_85 x12_82) (.and x12_38 x12_84)))))))))])
def ss12 : List SV := [.agg [.ci .u8 (.iv 0), .ci .u8 (.iv 1)], .c (.ci .u8 (.iv 2))]
def ks12 : List LK := [.i .u8, .i .u8, .i .u8]
theorem args12 : argTs Try.prog Try.f12.params.toList 0 = some (ss12, ks12) := by kernel_rfl
theorem tree12 : (tree Try.prog 12 (sumsIn sums42) 300 12 ss12 bare 0 ⟨ks12.map LK.rg, []⟩).small ⟨ks12.map LK.rg, []⟩ = some v12 := by kernel_rfl
def sums12 : List Sm := ⟨12, ss12, ks12, v12⟩ :: sums42
theorem sok12 : SumsOk Try.prog sums12 := sums_norm mixed sok42 args12 tree12 (by kernel_rfl)
def v48 : ST := .v (.c (.ci .i64 (.ite (.cmp .lss (.iv 0) (.lit (.ofNat 128))) (.iv 0) (.bin .sub .i64 (.iv 0) (.lit (.ofNat 256))))))
def ss48 : List SV := [.c (.ci .u8 (.iv 0))]
def ks48 : List LK := [.i .u8]
theorem args48 : argTs Try.prog Try.f48.params.toList 0 = some (ss48, ks48) := by kernel_rfl
theorem tree48 : (tree Try.prog 12 (sumsIn sums12) 300 48 ss48 bare 0 ⟨ks48.map LK.rg, []⟩).small ⟨ks48.map LK.rg, []⟩ = some v48 := by kernel_rfl
def sums48 : List Sm := ⟨48, ss48, ks48, v48⟩ :: sums12
theorem sok48 : SumsOk Try.prog sums48 := sums_norm mixed sok12 args48 tree48 (by kernel_rfl)
def x44_5 : X := .cmp .neq (.bin .and .u64 (.iv 1) (.lit (.ofNat 128))) (.lit (.ofNat 0))
def x44_8 : X := .cmp .neq (.bin .and .u64 (.iv 0) (.lit (.ofNat 128))) (.lit (.ofNat 0))
def x44_16 : X := .cmp .neq (.bin .and .u64 (.iv 1) (.lit (.ofNat 64))) (.lit (.ofNat 0))
def x44_18 : X := .cmp .neq (.bin .and .u64 (.iv 0) (.lit (.ofNat 64))) (.lit (.ofNat 0))
def x44_26 : X := .cmp .neq (.bin .and .u64 (.iv 1) (.lit (.ofNat 8))) (.lit (.ofNat 0))
def x44_28 : X := .cmp .neq (.bin .and .u64 (.iv 0) (.lit (.ofNat 8))) (.lit (.ofNat 0))
def x44_36 : X := .cmp .neq (.bin .and .u64 (.iv 1) (.lit (.ofNat 4))) (.lit (.ofNat 0))
def x44_38 : X := .cmp .neq (.bin .and .u64 (.iv 0) (.lit (.ofNat 4))) (.lit (.ofNat 0))
def x44_46 : X := .cmp .neq (.bin .and .u64 (.iv 1) (.lit (.ofNat 2))) (.lit (.ofNat 0))
def x44_48 : X := .cmp .neq (.bin .and .u64 (.iv 0) (.lit (.ofNat 2))) (.lit (.ofNat 0))
def x44_56 : X := .cmp .neq (.bin .and .u64 (.iv 1) (.lit (.ofNat 1))) (.lit (.ofNat 0))
def x44_58 : X := .cmp .neq (.bin .and .u64 (.iv 0) (.lit (.ofNat 1))) (.lit (.ofNat 0))
def v44 : ST := .v (.c (.ci .u8 (.bin .or .u8 (.ite (.ite (.bv 2) (.or x44_5 x44_8) (.and (.not x44_5) x44_8)) (.lit (.ofNat 128)) (.lit (.ofNat 0))) (.bin .or .u8 (.ite (.ite (.bv 2) (.or x44_16 x44_18) (.and (.not x44_16) x44_18)) (.lit (.ofNat 64)) (.lit (.ofNat 0))) (.bin .or .u8 (.ite (.ite (.bv 2) (.or x44_26 x44_28) (.and (.not x44_26) x44_28)) (.lit (.ofNat 8)) (.lit (.ofNat 0))) (.bin .or .u8 (.ite (.ite (.bv 2) (.or x44_36 x44_38) (.and (.not x44_36) x44_38)) (.lit (.ofNat 4)) (.lit (.ofNat 0))) (.bin .or .u8 (.ite (.ite (.bv 2) (.or x44_46 x44_48) (.and (.not x44_46) x44_48)) (.lit (.ofNat 2)) (.lit (.ofNat 0))) (.ite (.ite (.bv 2) (.or x44_56 x44_58) (.and (.not x44_56) x44_58)) (.lit (.ofNat 1)) (.lit (.ofNat 0))))))))))
def ss44 : List SV := [.c (.ci .u8 (.iv 0)), .c (.ci .u8 (.iv 1)), .c (.cb (.bv 2))]
def ks44 : List LK := [.i .u8, .i .u8, .b]
theorem args44 : argTs Try.prog Try.f44.params.toList 0 = some (ss44, ks44) := by kernel_rfl
theorem tree44 : (tree Try.prog 12 (sumsIn sums48) 300 44 ss44 bare 0 ⟨ks44.map LK.rg, []⟩).small ⟨ks44.map LK.rg, []⟩ = some v44 := by kernel_rfl
def sums44 : List Sm := ⟨44, ss44, ks44, v44⟩ :: sums48
theorem sok44 : SumsOk Try.prog sums44 := sums_norm mixed sok48 args44 tree44 (by kernel_rfl)
def x46_5 : X := .cmp .neq (.bin .and .u64 (.iv 2) (.lit (.ofNat 128))) (.lit (.ofNat 0))
def x46_8 : X := .cmp .neq (.bin .and .u64 (.iv 0) (.lit (.ofNat 128))) (.lit (.ofNat 0))
def x46_10 : X := .not x46_5
def x46_16 : X := .cmp .neq (.bin .and .u64 (.iv 2) (.lit (.ofNat 64))) (.lit (.ofNat 0))
def x46_18 : X := .cmp .neq (.bin .and .u64 (.iv 0) (.lit (.ofNat 64))) (.lit (.ofNat 0))
def x46_20 : X := .not x46_16
def x46_26 : X := .cmp .neq (.bin .and .u64 (.iv 2) (.lit (.ofNat 8))) (.lit (.ofNat 0))
def x46_28 : X := .cmp .neq (.bin .and .u64 (.iv 0) (.lit (.ofNat 8))) (.lit (.ofNat 0))
def x46_30 : X := .not x46_26
def x46_36 : X := .cmp .neq (.bin .and .u64 (.iv 2) (.lit (.ofNat 4))) (.lit (.ofNat 0))
def x46_38 : X := .cmp .neq (.bin .and .u64 (.iv 0) (.lit (.ofNat 4))) (.lit (.ofNat 0))
def x46_40 : X := .not x46_36
def x46_46 : X := .cmp .neq (.bin .and .u64 (.iv 2) (.lit (.ofNat 2))) (.lit (.ofNat 0))
def x46_48 : X := .cmp .neq (.bin .and .u64 (.iv 0) (.lit (.ofNat 2))) (.lit (.ofNat 0))
def x46_50 : X := .not x46_46
def x46_56 : X := .cmp .neq (.bin .and .u64 (.iv 2) (.lit (.ofNat 1))) (.lit (.ofNat 0))
def x46_58 : X := .cmp .neq (.bin .and .u64 (.iv 0) (.lit (.ofNat 1))) (.lit (.ofNat 0))
def x46_60 : X := .not x46_56
def x46_72 : X := .cmp .neq (.bin .and .u64 (.iv 1) (.lit (.ofNat 128))) (.lit (.ofNat 0))
def x46_78 : X := .cmp .neq (.bin .and .u64 (.iv 1) (.lit (.ofNat 64))) (.lit (.ofNat 0))
def x46_84 : X := .cmp .neq (.bin .and .u64 (.iv 1) (.lit (.ofNat 8))) (.lit (.ofNat 0))
def x46_90 : X := .cmp .neq (.bin .and .u64 (.iv 1) (.lit (.ofNat 4))) (.lit (.ofNat 0))
def x46_96 : X := .cmp .neq (.bin .and .u64 (.iv 1) (.lit (.ofNat 2))) (.lit (.ofNat 0))
def x46_102 : X := .cmp .neq (.bin .and .u64 (.iv 1) (.lit (.ofNat 1))) (.lit (.ofNat 0))
def v46 : ST := .v (.agg [.ci .u8 (.bin .or .u8 (.ite (.ite (.bv 3) (.or x46_5 x46_8) (.and x46_10 x46_8)) (.lit (.ofNat 128)) (.lit (.ofNat 0))) (.bin .or .u8 (.ite (.ite (.bv 3) (.or x46_16 x46_18) (.and x46_20 x46_18)) (.lit (.ofNat 64)) (.lit (.ofNat 0))) (.bin .or .u8 (.ite (.ite (.bv 3) (.or x46_26 x46_28) (.and x46_30 x46_28)) (.lit (.ofNat 8)) (.lit (.ofNat 0))) (.bin .or .u8 (.ite (.ite (.bv 3) (.or x46_36 x46_38) (.and x46_40 x46_38)) (.lit (.ofNat 4)) (.lit (.ofNat 0))) (.bin .or .u8 (.ite (.ite (.bv 3) (.or x46_46 x46_48) (.and x46_50 x46_48)) (.lit (.ofNat 2)) (.lit (.ofNat 0))) (.ite (.ite (.bv 3) (.or x46_56 x46_58) (.and x46_60 x46_58)) (.lit (.ofNat 1)) (.lit (.ofNat 0)))))))), .ci .u8 (.bin .or .u8 (.ite (.ite (.bv 4) (.or x46_5 x46_72) (.and x46_10 x46_72)) (.lit (.ofNat 128)) (.lit (.ofNat 0))) (.bin .or .u8 (.ite (.ite (.bv 4) (.or x46_16 x46_78) (.and x46_20 x46_78)) (.lit (.ofNat 64)) (.lit (.ofNat 0))) (.bin .or .u8 (.ite (.ite (.bv 4) (.or x46_26 x46_84) (.and x46_30 x46_84)) (.lit (.ofNat 8)) (.lit (.ofNat 0))) (.bin .or .u8 (.ite (.ite (.bv 4) (.or x46_36 x46_90) (.and x46_40 x46_90)) (.lit (.ofNat 4)) (.lit (.ofNat 0))) (.bin .or .u8 (.ite (.ite (.bv 4) (.or x46_46 x46_96) (.and x46_50 x46_96)) (.lit (.ofNat 2)) (.lit (.ofNat 0))) (.ite (.ite (.bv 4) (.or x46_56 x46_102) (.and x46_60 x46_102)) (.lit (.ofNat 1)) (.lit (.ofNat 0))))))))])
def ss46 : List SV := [.agg [.ci .u8 (.iv 0), .ci .u8 (.iv 1)], .c (.ci .u8 (.iv 2)), .c (.cb (.bv 3)), .c (.cb (.bv 4))]
def ks46 : List LK := [.i .u8, .i .u8, .i .u8, .b, .b]
theorem args46 : argTs Try.prog Try.f46.params.toList 0 = some (ss46, ks46) := by kernel_rfl
theorem tree46 : (tree Try.prog 12 (sumsIn sums44) 300 46 ss46 bare 0 ⟨ks46.map LK.rg, []⟩).small ⟨ks46.map LK.rg, []⟩ = some v46 := by kernel_rfl
def sums46 : List Sm := ⟨46, ss46, ks46, v46⟩ :: sums44
theorem sok46 : SumsOk Try.prog sums46 := sums_norm mixed sok44 args46 tree46 (by kernel_rfl)
def v16 : ST := .v (.agg [.ci .u8 (.bin .or .u8 (.ite (.cmp .geq (.iv 2) (.lit (.ofNat 128))) (.lit (.ofNat 128)) (.lit (.ofNat 0))) (.bin .or .u8 (.ite (.cmp .neq (.bin .and .u64 (.iv 0) (.lit (.ofNat 64))) (.lit (.ofNat 0))) (.lit (.ofNat 64)) (.lit (.ofNat 0))) (.bin .or .u8 (.ite (.cmp .neq (.bin .and .u64 (.iv 0) (.lit (.ofNat 8))) (.lit (.ofNat 0))) (.lit (.ofNat 8)) (.lit (.ofNat 0))) (.bin .or .u8 (.ite (.cmp .neq (.bin .and .u64 (.iv 0) (.lit (.ofNat 4))) (.lit (.ofNat 0))) (.lit (.ofNat 4)) (.lit (.ofNat 0))) (.bin .or .u8 (.ite (.cmp .eql (.iv 2) (.lit (.ofNat 0))) (.lit (.ofNat 2)) (.lit (.ofNat 0))) (.ite (.cmp .neq (.bin .and .u64 (.iv 0) (.lit (.ofNat 1))) (.lit (.ofNat 0))) (.lit (.ofNat 1)) (.lit (.ofNat 0)))))))), .ci .u8 (.bin .or .u8 (.ite (.bv 3) (.lit (.ofNat 128)) (.lit (.ofNat 0))) (.bin .or .u8 (.ite (.cmp .neq (.bin .and .u64 (.iv 1) (.lit (.ofNat 64))) (.lit (.ofNat 0))) (.lit (.ofNat 64)) (.lit (.ofNat 0))) (.bin .or .u8 (.ite (.cmp .neq (.bin .and .u64 (.iv 1) (.lit (.ofNat 8))) (.lit (.ofNat 0))) (.lit (.ofNat 8)) (.lit (.ofNat 0))) (.bin .or .u8 (.ite (.cmp .neq (.bin .and .u64 (.iv 1) (.lit (.ofNat 4))) (.lit (.ofNat 0))) (.lit (.ofNat 4)) (.lit (.ofNat 0))) (.bin .or .u8 (.ite (.bv 3) (.lit (.ofNat 2)) (.lit (.ofNat 0))) (.ite (.cmp .neq (.bin .and .u64 (.iv 1) (.lit (.ofNat 1))) (.lit (.ofNat 0))) (.lit (.ofNat 1)) (.lit (.ofNat 0))))))))])
def ss16 : List SV := [.agg [.ci .u8 (.iv 0), .ci .u8 (.iv 1)], .agg [.ci .u8 (.iv 2), .cb (.bv 3)]]
def ks16 : List LK := [.i .u8, .i .u8, .i .u8, .b]
theorem args16 : argTs Try.prog Try.f16.params.toList 0 = some (ss16, ks16) := by kernel_rfl
theorem tree16 : (tree Try.prog 12 (sumsIn sums46) 300 16 ss16 bare 0 ⟨ks16.map LK.rg, []⟩).small ⟨ks16.map LK.rg, []⟩ = some v16 := by kernel_rfl
def sums16 : List Sm := ⟨16, ss16, ks16, v16⟩ :: sums46
theorem sok16 : SumsOk Try.prog sums16 := sums_norm mixed sok46 args16 tree16 (by kernel_rfl)
def x23_8 : X := .ite (.cmp .neq (.bin .and .u64 (.iv 0) (.lit (.ofNat 1))) (.lit (.ofNat 0))) (.lit (.ofNat 1)) (.lit (.ofNat 0))
def x23_9 : X := .bin .add .i64 (.bin .add .i64 (.iv 2) (.iv 4)) x23_8
def x23_11 : X := .bin .rem .i64 x23_9 (.lit (.ofNat 256))
def x23_18 : X := .or (.bv 5) (.or (.bv 3) (.cmp .neq (.bin .and .u64 (.iv 1) (.lit (.ofNat 1))) (.lit (.ofNat 0))))
def x23_29 : X := .bin .add .i64 (.bin .add .i64 (.ite (.cmp .lss (.iv 2) (.lit (.ofNat 128))) (.iv 2) (.bin .sub .i64 (.iv 2) (.lit (.ofNat 256)))) (.ite (.cmp .lss (.iv 4) (.lit (.ofNat 128))) (.iv 4) (.bin .sub .i64 (.iv 4) (.lit (.ofNat 256))))) x23_8
def v23 : ST := .tup [.agg [.ci .u8 x23_11, .cb x23_18], .agg [.ci .u8 (.bin .or .u8 (.ite (.cmp .geq x23_11 (.lit (.ofNat 128))) (.lit (.ofNat 128)) (.lit (.ofNat 0))) (.bin .or .u8 (.ite (.or (.cmp .lss x23_29 (.lit (.negSucc 127))) (.cmp .gtr x23_29 (.lit (.ofNat 127)))) (.lit (.ofNat 64)) (.lit (.ofNat 0))) (.bin .or .u8 (.ite (.cmp .neq (.bin .and .u64 (.iv 0) (.lit (.ofNat 8))) (.lit (.ofNat 0))) (.lit (.ofNat 8)) (.lit (.ofNat 0))) (.bin .or .u8 (.ite (.cmp .neq (.bin .and .u64 (.iv 0) (.lit (.ofNat 4))) (.lit (.ofNat 0))) (.lit (.ofNat 4)) (.lit (.ofNat 0))) (.bin .or .u8 (.ite (.cmp .eql x23_11 (.lit (.ofNat 0))) (.lit (.ofNat 2)) (.lit (.ofNat 0))) (.ite (.cmp .geq x23_9 (.lit (.ofNat 256))) (.lit (.ofNat 1)) (.lit (.ofNat 0)))))))), .ci .u8 (.bin .or .u8 (.ite x23_18 (.lit (.ofNat 128)) (.lit (.ofNat 0))) (.bin .or .u8 (.ite x23_18 (.lit (.ofNat 64)) (.lit (.ofNat 0))) (.bin .or .u8 (.ite (.cmp .neq (.bin .and .u64 (.iv 1) (.lit (.ofNat 8))) (.lit (.ofNat 0))) (.lit (.ofNat 8)) (.lit (.ofNat 0))) (.bin .or .u8 (.ite (.cmp .neq (.bin .and .u64 (.iv 1) (.lit (.ofNat 4))) (.lit (.ofNat 0))) (.lit (.ofNat 4)) (.lit (.ofNat 0))) (.bin .or .u8 (.ite x23_18 (.lit (.ofNat 2)) (.lit (.ofNat 0))) (.ite x23_18 (.lit (.ofNat 1)) (.lit (.ofNat 0))))))))]]
def ss23 : List SV := [.agg [.ci .u8 (.iv 0), .ci .u8 (.iv 1)], .agg [.ci .u8 (.iv 2), .cb (.bv 3)], .agg [.ci .u8 (.iv 4), .cb (.bv 5)]]
def ks23 : List LK := [.i .u8, .i .u8, .i .u8, .b, .i .u8, .b]
theorem args23 : argTs Try.prog Try.f23.params.toList 0 = some (ss23, ks23) := by kernel_rfl
theorem tree23 : (tree Try.prog 12 (sumsIn sums16) 300 23 ss23 bare 0 ⟨ks23.map LK.rg, []⟩).small ⟨ks23.map LK.rg, []⟩ = some v23 := by kernel_rfl
def sums23 : List Sm := ⟨23, ss23, ks23, v23⟩ :: sums16
theorem sok23 : SumsOk Try.prog sums23 := sums_norm mixed sok16 args23 tree23 (by kernel_rfl)
def v50 : ST := .v (.agg [.ci .u8 (.iv 0), .cb (.bl false)])
def ss50 : List SV := [.c (.ci .u8 (.iv 0))]
def ks50 : List LK := [.i .u8]
theorem args50 : argTs Try.prog Try.f50.params.toList 0 = some (ss50, ks50) := by kernel_rfl
theorem tree50 : (tree Try.prog 12 (sumsIn sums23) 300 50 ss50 bare 0 ⟨ks50.map LK.rg, []⟩).small ⟨ks50.map LK.rg, []⟩ = some v50 := by kernel_rfl
def sums50 : List Sm := ⟨50, ss50, ks50, v50⟩ :: sums23
theorem sok50 : SumsOk Try.prog sums50 := sums_norm mixed sok23 args50 tree50 (by kernel_rfl)
def x49_7 : X := .cmp .neq (.bin .and .u64 (.iv 0) (.lit (.ofNat 128))) (.lit (.ofNat 0))
def x49_15 : X := .cmp .neq (.bin .and .u64 (.iv 0) (.lit (.ofNat 64))) (.lit (.ofNat 0))
def x49_23 : X := .cmp .neq (.bin .and .u64 (.iv 0) (.lit (.ofNat 32))) (.lit (.ofNat 0))
def x49_31 : X := .cmp .neq (.bin .and .u64 (.iv 0) (.lit (.ofNat 16))) (.lit (.ofNat 0))
def x49_39 : X := .cmp .neq (.bin .and .u64 (.iv 0) (.lit (.ofNat 8))) (.lit (.ofNat 0))
def x49_47 : X := .cmp .neq (.bin .and .u64 (.iv 0) (.lit (.ofNat 4))) (.lit (.ofNat 0))
def x49_55 : X := .cmp .neq (.bin .and .u64 (.iv 0) (.lit (.ofNat 2))) (.lit (.ofNat 0))
def x49_63 : X := .cmp .neq (.bin .and .u64 (.iv 0) (.lit (.ofNat 1))) (.lit (.ofNat 0))
def v49 : ST := .v (.agg [.ci .u8 (.bin .or .u8 (.ite (.ite (.cmp .neq (.bin .and .u64 (.iv 2) (.lit (.ofNat 128))) (.lit (.ofNat 0))) (.not x49_7) x49_7) (.lit (.ofNat 128)) (.lit (.ofNat 0))) (.bin .or .u8 (.ite (.ite (.cmp .neq (.bin .and .u64 (.iv 2) (.lit (.ofNat 64))) (.lit (.ofNat 0))) (.not x49_15) x49_15) (.lit (.ofNat 64)) (.lit (.ofNat 0))) (.bin .or .u8 (.ite (.ite (.cmp .neq (.bin .and .u64 (.iv 2) (.lit (.ofNat 32))) (.lit (.ofNat 0))) (.not x49_23) x49_23) (.lit (.ofNat 32)) (.lit (.ofNat 0))) (.bin .or .u8 (.ite (.ite (.cmp .neq (.bin .and .u64 (.iv 2) (.lit (.ofNat 16))) (.lit (.ofNat 0))) (.not x49_31) x49_31) (.lit (.ofNat 16)) (.lit (.ofNat 0))) (.bin .or .u8 (.ite (.ite (.cmp .neq (.bin .and .u64 (.iv 2) (.lit (.ofNat 8))) (.lit (.ofNat 0))) (.not x49_39) x49_39) (.lit (.ofNat 8)) (.lit (.ofNat 0))) (.bin .or .u8 (.ite (.ite (.cmp .neq (.bin .and .u64 (.iv 2) (.lit (.ofNat 4))) (.lit (.ofNat 0))) (.not x49_47) x49_47) (.lit (.ofNat 4)) (.lit (.ofNat 0))) (.bin .or .u8 (.ite (.ite (.cmp .neq (.bin .and .u64 (.iv 2) (.lit (.ofNat 2))) (.lit (.ofNat 0))) (.not x49_55) x49_55) (.lit (.ofNat 2)) (.lit (.ofNat 0))) (.ite (.ite (.cmp .neq (.bin .and .u64 (.iv 2) (.lit (.ofNat 1))) (.lit (.ofNat 0))) (.not x49_63) x49_63) (.lit (.ofNat 1)) (.lit (.ofNat 0)))))))))), .cb (.or (.bv 3) (.bv 1))])
def ss49 : List SV := [.agg [.ci .u8 (.iv 0), .cb (.bv 1)], .agg [.ci .u8 (.iv 2), .cb (.bv 3)]]
def ks49 : List LK := [.i .u8, .b, .i .u8, .b]
theorem args49 : argTs Try.prog Try.f49.params.toList 0 = some (ss49, ks49) := by kernel_rfl
theorem tree49 : (tree Try.prog 12 (sumsIn sums50) 300 49 ss49 bare 0 ⟨ks49.map LK.rg, []⟩).small ⟨ks49.map LK.rg, []⟩ = some v49 := by kernel_rfl
def sums49 : List Sm := ⟨49, ss49, ks49, v49⟩ :: sums50
theorem sok49 : SumsOk Try.prog sums49 := sums_norm mixed sok50 args49 tree49 (by kernel_rfl)
def x24_5 : X := .cmp .neq (.bin .and .u64 (.iv 4) (.lit (.ofNat 128))) (.lit (.ofNat 0))
def x24_10 : X := .cmp .neq (.bin .and .u64 (.iv 4) (.lit (.ofNat 64))) (.lit (.ofNat 0))
def x24_15 : X := .cmp .neq (.bin .and .u64 (.iv 4) (.lit (.ofNat 32))) (.lit (.ofNat 0))
def x24_20 : X := .cmp .neq (.bin .and .u64 (.iv 4) (.lit (.ofNat 16))) (.lit (.ofNat 0))
def x24_25 : X := .cmp .neq (.bin .and .u64 (.iv 4) (.lit (.ofNat 8))) (.lit (.ofNat 0))
def x24_30 : X := .cmp .neq (.bin .and .u64 (.iv 4) (.lit (.ofNat 4))) (.lit (.ofNat 0))
def x24_35 : X := .cmp .neq (.bin .and .u64 (.iv 4) (.lit (.ofNat 2))) (.lit (.ofNat 0))
def x24_40 : X := .cmp .neq (.bin .and .u64 (.iv 4) (.lit (.ofNat 1))) (.lit (.ofNat 0))
def x24_55 : X := .bin .add .u64 (.bin .add .u64 (.iv 2) (.bin .or .u8 (.ite (.not x24_5) (.lit (.ofNat 128)) (.lit (.ofNat 0))) (.bin .or .u8 (.ite (.not x24_10) (.lit (.ofNat 64)) (.lit (.ofNat 0))) (.bin .or .u8 (.ite (.not x24_15) (.lit (.ofNat 32)) (.lit (.ofNat 0))) (.bin .or .u8 (.ite (.not x24_20) (.lit (.ofNat 16)) (.lit (.ofNat 0))) (.bin .or .u8 (.ite (.not x24_25) (.lit (.ofNat 8)) (.lit (.ofNat 0))) (.bin .or .u8 (.ite (.not x24_30) (.lit (.ofNat 4)) (.lit (.ofNat 0))) (.bin .or .u8 (.ite (.not x24_35) (.lit (.ofNat 2)) (.lit (.ofNat 0))) (.ite (.not x24_40) (.lit (.ofNat 1)) (.lit (.ofNat 0))))))))))) (.ite (.cmp .neq (.bin .and .u64 (.iv 0) (.lit (.ofNat 1))) (.lit (.ofNat 0))) (.lit (.ofNat 1)) (.lit (.ofNat 0)))
def x24_56 : X := .wrap .u8 x24_55
def x24_63 : X := .or (.bv 5) (.or (.bv 3) (.cmp .neq (.bin .and .u64 (.iv 1) (.lit (.ofNat 1))) (.lit (.ofNat 0))))
def x24_68 : X := .cmp .neq (.bin .and .u64 (.iv 2) (.lit (.ofNat 128))) (.lit (.ofNat 0))
def x24_73 : X := .cmp .neq (.bin .and .u64 (.iv 2) (.lit (.ofNat 64))) (.lit (.ofNat 0))
def x24_78 : X := .cmp .neq (.bin .and .u64 (.iv 2) (.lit (.ofNat 32))) (.lit (.ofNat 0))
def x24_83 : X := .cmp .neq (.bin .and .u64 (.iv 2) (.lit (.ofNat 16))) (.lit (.ofNat 0))
def x24_88 : X := .cmp .neq (.bin .and .u64 (.iv 2) (.lit (.ofNat 8))) (.lit (.ofNat 0))
def x24_93 : X := .cmp .neq (.bin .and .u64 (.iv 2) (.lit (.ofNat 4))) (.lit (.ofNat 0))
def x24_98 : X := .cmp .neq (.bin .and .u64 (.iv 2) (.lit (.ofNat 2))) (.lit (.ofNat 0))
def x24_103 : X := .cmp .neq (.bin .and .u64 (.iv 2) (.lit (.ofNat 1))) (.lit (.ofNat 0))
def x24_118 : X := .ite (.cmp .gtr (.bin .and .u8 (.bin .and .u8 (.bin .or .u8 (.ite (.ite x24_5 (.not x24_68) x24_68) (.lit (.ofNat 128)) (.lit (.ofNat 0))) (.bin .or .u8 (.ite (.ite x24_10 (.not x24_73) x24_73) (.lit (.ofNat 64)) (.lit (.ofNat 0))) (.bin .or .u8 (.ite (.ite x24_15 (.not x24_78) x24_78) (.lit (.ofNat 32)) (.lit (.ofNat 0))) (.bin .or .u8 (.ite (.ite x24_20 (.not x24_83) x24_83) (.lit (.ofNat 16)) (.lit (.ofNat 0))) (.bin .or .u8 (.ite (.ite x24_25 (.not x24_88) x24_88) (.lit (.ofNat 8)) (.lit (.ofNat 0))) (.bin .or .u8 (.ite (.ite x24_30 (.not x24_93) x24_93) (.lit (.ofNat 4)) (.lit (.ofNat 0))) (.bin .or .u8 (.ite (.ite x24_35 (.not x24_98) x24_98) (.lit (.ofNat 2)) (.lit (.ofNat 0))) (.ite (.ite x24_40 (.not x24_103) x24_103) (.lit (.ofNat 1)) (.lit (.ofNat 0)))))))))) (.bin .xor .u8 (.iv 2) x24_56)) (.lit (.ofNat 128))) (.lit (.ofNat 0))) (.lit (.ofNat 64)) (.lit (.ofNat 0))
def v24 : ST := .tup [.agg [.ci .u8 x24_56, .cb x24_63], .agg [.ci .u8 (.bin .or .u8 (.ite (.cmp .gtr x24_56 (.lit (.ofNat 127))) (.lit (.ofNat 128)) (.lit (.ofNat 0))) (.bin .or .u8 x24_118 (.bin .or .u8 (.ite (.cmp .neq (.bin .and .u64 (.iv 0) (.lit (.ofNat 8))) (.lit (.ofNat 0))) (.lit (.ofNat 8)) (.lit (.ofNat 0))) (.bin .or .u8 (.ite (.cmp .neq (.bin .and .u64 (.iv 0) (.lit (.ofNat 4))) (.lit (.ofNat 0))) (.lit (.ofNat 4)) (.lit (.ofNat 0))) (.bin .or .u8 (.ite (.cmp .eql x24_56 (.lit (.ofNat 0))) (.lit (.ofNat 2)) (.lit (.ofNat 0))) (.ite (.cmp .gtr x24_55 (.lit (.ofNat 255))) (.lit (.ofNat 1)) (.lit (.ofNat 0)))))))), .ci .u8 (.bin .or .u8 (.ite x24_63 (.lit (.ofNat 128)) (.lit (.ofNat 0))) (.bin .or .u8 (.ite x24_63 (.lit (.ofNat 64)) (.lit (.ofNat 0))) (.bin .or .u8 (.ite (.cmp .neq (.bin .and .u64 (.iv 1) (.lit (.ofNat 8))) (.lit (.ofNat 0))) (.lit (.ofNat 8)) (.lit (.ofNat 0))) (.bin .or .u8 (.ite (.cmp .neq (.bin .and .u64 (.iv 1) (.lit (.ofNat 4))) (.lit (.ofNat 0))) (.lit (.ofNat 4)) (.lit (.ofNat 0))) (.bin .or .u8 (.ite x24_63 (.lit (.ofNat 2)) (.lit (.ofNat 0))) (.ite x24_63 (.lit (.ofNat 1)) (.lit (.ofNat 0))))))))]]
def ss24 : List SV := [.agg [.ci .u8 (.iv 0), .ci .u8 (.iv 1)], .agg [.ci .u8 (.iv 2), .cb (.bv 3)], .agg [.ci .u8 (.iv 4), .cb (.bv 5)]]
def ks24 : List LK := [.i .u8, .i .u8, .i .u8, .b, .i .u8, .b]
theorem args24 : argTs Try.prog Try.f24.params.toList 0 = some (ss24, ks24) := by kernel_rfl
theorem tree24 : (tree Try.prog 12 (sumsIn sums49) 300 24 ss24 bare 0 ⟨ks24.map LK.rg, []⟩).small ⟨ks24.map LK.rg, []⟩ = some v24 := by kernel_rfl
def sums24 : List Sm := ⟨24, ss24, ks24, v24⟩ :: sums49
theorem sok24 : SumsOk Try.prog sums24 := sums_norm mixed sok49 args24 tree24 (by kernel_rfl)
def x25_3 : X := .bin .sub .u8 (.lit (.ofNat 255)) (.iv 4)
def x25_10 : X := .ite (.cmp .neq (.bin .and .u64 (.iv 0) (.lit (.ofNat 1))) (.lit (.ofNat 0))) (.lit (.ofNat 1)) (.lit (.ofNat 0))
def x25_11 : X := .bin .add .i64 (.bin .add .i64 (.iv 2) x25_3) x25_10
def x25_13 : X := .bin .rem .i64 x25_11 (.lit (.ofNat 256))
def x25_20 : X := .or (.bv 5) (.or (.bv 3) (.cmp .neq (.bin .and .u64 (.iv 1) (.lit (.ofNat 1))) (.lit (.ofNat 0))))
def x25_31 : X := .bin .add .i64 (.bin .add .i64 (.ite (.cmp .lss (.iv 2) (.lit (.ofNat 128))) (.iv 2) (.bin .sub .i64 (.iv 2) (.lit (.ofNat 256)))) (.ite (.cmp .lss x25_3 (.lit (.ofNat 128))) x25_3 (.bin .sub .i64 x25_3 (.lit (.ofNat 256))))) x25_10
def v25 : ST := .tup [.agg [.ci .u8 x25_13, .cb x25_20], .agg [.ci .u8 (.bin .or .u8 (.ite (.cmp .geq x25_13 (.lit (.ofNat 128))) (.lit (.ofNat 128)) (.lit (.ofNat 0))) (.bin .or .u8 (.ite (.or (.cmp .lss x25_31 (.lit (.negSucc 127))) (.cmp .gtr x25_31 (.lit (.ofNat 127)))) (.lit (.ofNat 64)) (.lit (.ofNat 0))) (.bin .or .u8 (.ite (.cmp .neq (.bin .and .u64 (.iv 0) (.lit (.ofNat 8))) (.lit (.ofNat 0))) (.lit (.ofNat 8)) (.lit (.ofNat 0))) (.bin .or .u8 (.ite (.cmp .neq (.bin .and .u64 (.iv 0) (.lit (.ofNat 4))) (.lit (.ofNat 0))) (.lit (.ofNat 4)) (.lit (.ofNat 0))) (.bin .or .u8 (.ite (.cmp .eql x25_13 (.lit (.ofNat 0))) (.lit (.ofNat 2)) (.lit (.ofNat 0))) (.ite (.cmp .geq x25_11 (.lit (.ofNat 256))) (.lit (.ofNat 1)) (.lit (.ofNat 0)))))))), .ci .u8 (.bin .or .u8 (.ite x25_20 (.lit (.ofNat 128)) (.lit (.ofNat 0))) (.bin .or .u8 (.ite x25_20 (.lit (.ofNat 64)) (.lit (.ofNat 0))) (.bin .or .u8 (.ite (.cmp .neq (.bin .and .u64 (.iv 1) (.lit (.ofNat 8))) (.lit (.ofNat 0))) (.lit (.ofNat 8)) (.lit (.ofNat 0))) (.bin .or .u8 (.ite (.cmp .neq (.bin .and .u64 (.iv 1) (.lit (.ofNat 4))) (.lit (.ofNat 0))) (.lit (.ofNat 4)) (.lit (.ofNat 0))) (.bin .or .u8 (.ite x25_20 (.lit (.ofNat 2)) (.lit (.ofNat 0))) (.ite x25_20 (.lit (.ofNat 1)) (.lit (.ofNat 0))))))))]]
def ss25 : List SV := [.agg [.ci .u8 (.iv 0), .ci .u8 (.iv 1)], .agg [.ci .u8 (.iv 2), .cb (.bv 3)], .agg [.ci .u8 (.iv 4), .cb (.bv 5)]]
def ks25 : List LK := [.i .u8, .i .u8, .i .u8, .b, .i .u8, .b]
theorem args25 : argTs Try.prog Try.f25.params.toList 0 = some (ss25, ks25) := by kernel_rfl
theorem tree25 : (tree Try.prog 12 (sumsIn sums24) 300 25 ss25 bare 0 ⟨ks25.map LK.rg, []⟩).small ⟨ks25.map LK.rg, []⟩ = some v25 := by kernel_rfl
def sums25 : List Sm := ⟨25, ss25, ks25, v25⟩ :: sums24
theorem sok25 : SumsOk Try.prog sums25 := sums_norm mixed sok24 args25 tree25 (by kernel_rfl)
def x26_2 : X := .bin .sub .u8 (.iv 2) (.iv 4)
def x26_5 : X := .or (.bv 5) (.bv 3)
def v26 : ST := .tup [.agg [.ci .u8 x26_2, .cb x26_5], .agg [.ci .u8 (.bin .or .u8 (.ite (.cmp .gtr x26_2 (.lit (.ofNat 127))) (.lit (.ofNat 128)) (.lit (.ofNat 0))) (.bin .or .u8 (.ite (.cmp .neq (.bin .and .u64 (.iv 0) (.lit (.ofNat 64))) (.lit (.ofNat 0))) (.lit (.ofNat 64)) (.lit (.ofNat 0))) (.bin .or .u8 (.ite (.cmp .neq (.bin .and .u64 (.iv 0) (.lit (.ofNat 8))) (.lit (.ofNat 0))) (.lit (.ofNat 8)) (.lit (.ofNat 0))) (.bin .or .u8 (.ite (.cmp .neq (.bin .and .u64 (.iv 0) (.lit (.ofNat 4))) (.lit (.ofNat 0))) (.lit (.ofNat 4)) (.lit (.ofNat 0))) (.bin .or .u8 (.ite (.cmp .eql x26_2 (.lit (.ofNat 0))) (.lit (.ofNat 2)) (.lit (.ofNat 0))) (.ite (.cmp .geq (.iv 2) (.iv 4)) (.lit (.ofNat 1)) (.lit (.ofNat 0)))))))), .ci .u8 (.bin .or .u8 (.ite x26_5 (.lit (.ofNat 128)) (.lit (.ofNat 0))) (.bin .or .u8 (.ite (.cmp .neq (.bin .and .u64 (.iv 1) (.lit (.ofNat 64))) (.lit (.ofNat 0))) (.lit (.ofNat 64)) (.lit (.ofNat 0))) (.bin .or .u8 (.ite (.cmp .neq (.bin .and .u64 (.iv 1) (.lit (.ofNat 8))) (.lit (.ofNat 0))) (.lit (.ofNat 8)) (.lit (.ofNat 0))) (.bin .or .u8 (.ite (.cmp .neq (.bin .and .u64 (.iv 1) (.lit (.ofNat 4))) (.lit (.ofNat 0))) (.lit (.ofNat 4)) (.lit (.ofNat 0))) (.bin .or .u8 (.ite x26_5 (.lit (.ofNat 2)) (.lit (.ofNat 0))) (.ite x26_5 (.lit (.ofNat 1)) (.lit (.ofNat 0))))))))]]
def ss26 : List SV := [.agg [.ci .u8 (.iv 0), .ci .u8 (.iv 1)], .agg [.ci .u8 (.iv 2), .cb (.bv 3)], .agg [.ci .u8 (.iv 4), .cb (.bv 5)]]
def ks26 : List LK := [.i .u8, .i .u8, .i .u8, .b, .i .u8, .b]
theorem args26 : argTs Try.prog Try.f26.params.toList 0 = some (ss26, ks26) := by kernel_rfl
theorem tree26 : (tree Try.prog 12 (sumsIn sums25) 300 26 ss26 bare 0 ⟨ks26.map LK.rg, []⟩).small ⟨ks26.map LK.rg, []⟩ = some v26 := by kernel_rfl
def sums26 : List Sm := ⟨26, ss26, ks26, v26⟩ :: sums25
theorem sok26 : SumsOk Try.prog sums26 := sums_norm mixed sok25 args26 tree26 (by kernel_rfl)
def x27_45 : X := .bin .rem .i64 (.bin .sub .i64 (.bin .or .i64 (.lit (.ofNat 256)) (.bin .or .i64 (.ite (.cmp .neq (.bin .and .u64 (.iv 2) (.lit (.ofNat 128))) (.lit (.ofNat 0))) (.lit (.ofNat 128)) (.lit (.ofNat 0))) (.bin .or .i64 (.ite (.cmp .neq (.bin .and .u64 (.iv 2) (.lit (.ofNat 64))) (.lit (.ofNat 0))) (.lit (.ofNat 64)) (.lit (.ofNat 0))) (.bin .or .i64 (.ite (.cmp .neq (.bin .and .u64 (.iv 2) (.lit (.ofNat 32))) (.lit (.ofNat 0))) (.lit (.ofNat 32)) (.lit (.ofNat 0))) (.bin .or .i64 (.ite (.cmp .neq (.bin .and .u64 (.iv 2) (.lit (.ofNat 16))) (.lit (.ofNat 0))) (.lit (.ofNat 16)) (.lit (.ofNat 0))) (.bin .or .i64 (.ite (.cmp .neq (.bin .and .u64 (.iv 2) (.lit (.ofNat 8))) (.lit (.ofNat 0))) (.lit (.ofNat 8)) (.lit (.ofNat 0))) (.bin .or .i64 (.ite (.cmp .neq (.bin .and .u64 (.iv 2) (.lit (.ofNat 4))) (.lit (.ofNat 0))) (.lit (.ofNat 4)) (.lit (.ofNat 0))) (.bin .or .i64 (.ite (.cmp .neq (.bin .and .u64 (.iv 2) (.lit (.ofNat 2))) (.lit (.ofNat 0))) (.lit (.ofNat 2)) (.lit (.ofNat 0))) (.ite (.cmp .neq (.bin .and .u64 (.iv 2) (.lit (.ofNat 1))) (.lit (.ofNat 0))) (.lit (.ofNat 1)) (.lit (.ofNat 0))))))))))) (.iv 4)) (.lit (.ofNat 256))
def x27_48 : X := .or (.bv 5) (.bv 3)
def v27 : ST := .tup [.agg [.ci .u8 x27_45, .cb x27_48], .agg [.ci .u8 (.bin .or .u8 (.ite (.cmp .geq x27_45 (.lit (.ofNat 128))) (.lit (.ofNat 128)) (.lit (.ofNat 0))) (.bin .or .u8 (.ite (.cmp .neq (.bin .and .u64 (.iv 0) (.lit (.ofNat 64))) (.lit (.ofNat 0))) (.lit (.ofNat 64)) (.lit (.ofNat 0))) (.bin .or .u8 (.ite (.cmp .neq (.bin .and .u64 (.iv 0) (.lit (.ofNat 8))) (.lit (.ofNat 0))) (.lit (.ofNat 8)) (.lit (.ofNat 0))) (.bin .or .u8 (.ite (.cmp .neq (.bin .and .u64 (.iv 0) (.lit (.ofNat 4))) (.lit (.ofNat 0))) (.lit (.ofNat 4)) (.lit (.ofNat 0))) (.bin .or .u8 (.ite (.cmp .eql x27_45 (.lit (.ofNat 0))) (.lit (.ofNat 2)) (.lit (.ofNat 0))) (.ite (.cmp .geq (.iv 2) (.iv 4)) (.lit (.ofNat 1)) (.lit (.ofNat 0)))))))), .ci .u8 (.bin .or .u8 (.ite x27_48 (.lit (.ofNat 128)) (.lit (.ofNat 0))) (.bin .or .u8 (.ite (.cmp .neq (.bin .and .u64 (.iv 1) (.lit (.ofNat 64))) (.lit (.ofNat 0))) (.lit (.ofNat 64)) (.lit (.ofNat 0))) (.bin .or .u8 (.ite (.cmp .neq (.bin .and .u64 (.iv 1) (.lit (.ofNat 8))) (.lit (.ofNat 0))) (.lit (.ofNat 8)) (.lit (.ofNat 0))) (.bin .or .u8 (.ite (.cmp .neq (.bin .and .u64 (.iv 1) (.lit (.ofNat 4))) (.lit (.ofNat 0))) (.lit (.ofNat 4)) (.lit (.ofNat 0))) (.bin .or .u8 (.ite x27_48 (.lit (.ofNat 2)) (.lit (.ofNat 0))) (.ite x27_48 (.lit (.ofNat 1)) (.lit (.ofNat 0))))))))]]
def ss27 : List SV := [.agg [.ci .u8 (.iv 0), .ci .u8 (.iv 1)], .agg [.ci .u8 (.iv 2), .cb (.bv 3)], .agg [.ci .u8 (.iv 4), .cb (.bv 5)]]
def ks27 : List LK := [.i .u8, .i .u8, .i .u8, .b, .i .u8, .b]
theorem args27 : argTs Try.prog Try.f27.params.toList 0 = some (ss27, ks27) := by kernel_rfl
theorem tree27 : (tree Try.prog 12 (sumsIn sums26) 300 27 ss27 bare 0 ⟨ks27.map LK.rg, []⟩).small ⟨ks27.map LK.rg, []⟩ = some v27 := by kernel_rfl
def sums27 : List Sm := ⟨27, ss27, ks27, v27⟩ :: sums26
theorem sok27 : SumsOk Try.prog sums27 := sums_norm mixed sok26 args27 tree27 (by kernel_rfl)
def x28_2 : X := .bin .sub .u8 (.iv 2) (.iv 4)
def x28_34 : X := .or (.bv 5) (.bv 3)
def v28 : ST := .v (.agg [.ci .u8 (.bin .or .u8 (.ite (.cmp .gtr x28_2 (.lit (.ofNat 127))) (.lit (.ofNat 128)) (.lit (.ofNat 0))) (.bin .or .u8 (.ite (.cmp .neq (.bin .and .u64 (.iv 0) (.lit (.ofNat 64))) (.lit (.ofNat 0))) (.lit (.ofNat 64)) (.lit (.ofNat 0))) (.bin .or .u8 (.ite (.cmp .neq (.bin .and .u64 (.iv 0) (.lit (.ofNat 8))) (.lit (.ofNat 0))) (.lit (.ofNat 8)) (.lit (.ofNat 0))) (.bin .or .u8 (.ite (.cmp .neq (.bin .and .u64 (.iv 0) (.lit (.ofNat 4))) (.lit (.ofNat 0))) (.lit (.ofNat 4)) (.lit (.ofNat 0))) (.bin .or .u8 (.ite (.cmp .eql x28_2 (.lit (.ofNat 0))) (.lit (.ofNat 2)) (.lit (.ofNat 0))) (.ite (.cmp .geq (.iv 2) (.iv 4)) (.lit (.ofNat 1)) (.lit (.ofNat 0)))))))), .ci .u8 (.bin .or .u8 (.ite x28_34 (.lit (.ofNat 128)) (.lit (.ofNat 0))) (.bin .or .u8 (.ite (.cmp .neq (.bin .and .u64 (.iv 1) (.lit (.ofNat 64))) (.lit (.ofNat 0))) (.lit (.ofNat 64)) (.lit (.ofNat 0))) (.bin .or .u8 (.ite (.cmp .neq (.bin .and .u64 (.iv 1) (.lit (.ofNat 8))) (.lit (.ofNat 0))) (.lit (.ofNat 8)) (.lit (.ofNat 0))) (.bin .or .u8 (.ite (.cmp .neq (.bin .and .u64 (.iv 1) (.lit (.ofNat 4))) (.lit (.ofNat 0))) (.lit (.ofNat 4)) (.lit (.ofNat 0))) (.bin .or .u8 (.ite x28_34 (.lit (.ofNat 2)) (.lit (.ofNat 0))) (.ite x28_34 (.lit (.ofNat 1)) (.lit (.ofNat 0))))))))])
def ss28 : List SV := [.agg [.ci .u8 (.iv 0), .ci .u8 (.iv 1)], .agg [.ci .u8 (.iv 2), .cb (.bv 3)], .agg [.ci .u8 (.iv 4), .cb (.bv 5)]]
def ks28 : List LK := [.i .u8, .i .u8, .i .u8, .b, .i .u8, .b]
theorem args28 : argTs Try.prog Try.f28.params.toList 0 = some (ss28, ks28) := by kernel_rfl
theorem tree28 : (tree Try.prog 12 (sumsIn sums27) 300 28 ss28 bare 0 ⟨ks28.map LK.rg, []⟩).small ⟨ks28.map LK.rg, []⟩ = some v28 := by kernel_rfl
def sums28 : List Sm := ⟨28, ss28, ks28, v28⟩ :: sums27
theorem sok28 : SumsOk Try.prog sums28 := sums_norm mixed sok27 args28 tree28 (by kernel_rfl)
def v51 : ST := .v (.agg [.ci .u8 (.bin .or .u8 (.ite (.and (.cmp .neq (.bin .and .u64 (.iv 2) (.lit (.ofNat 128))) (.lit (.ofNat 0))) (.cmp .neq (.bin .and .u64 (.iv 0) (.lit (.ofNat 128))) (.lit (.ofNat 0)))) (.lit (.ofNat 128)) (.lit (.ofNat 0))) (.bin .or .u8 (.ite (.and (.cmp .neq (.bin .and .u64 (.iv 2) (.lit (.ofNat 64))) (.lit (.ofNat 0))) (.cmp .neq (.bin .and .u64 (.iv 0) (.lit (.ofNat 64))) (.lit (.ofNat 0)))) (.lit (.ofNat 64)) (.lit (.ofNat 0))) (.bin .or .u8 (.ite (.and (.cmp .neq (.bin .and .u64 (.iv 2) (.lit (.ofNat 32))) (.lit (.ofNat 0))) (.cmp .neq (.bin .and .u64 (.iv 0) (.lit (.ofNat 32))) (.lit (.ofNat 0)))) (.lit (.ofNat 32)) (.lit (.ofNat 0))) (.bin .or .u8 (.ite (.and (.cmp .neq (.bin .and .u64 (.iv 2) (.lit (.ofNat 16))) (.lit (.ofNat 0))) (.cmp .neq (.bin .and .u64 (.iv 0) (.lit (.ofNat 16))) (.lit (.ofNat 0)))) (.lit (.ofNat 16)) (.lit (.ofNat 0))) (.bin .or .u8 (.ite (.and (.cmp .neq (.bin .and .u64 (.iv 2) (.lit (.ofNat 8))) (.lit (.ofNat 0))) (.cmp .neq (.bin .and .u64 (.iv 0) (.lit (.ofNat 8))) (.lit (.ofNat 0)))) (.lit (.ofNat 8)) (.lit (.ofNat 0))) (.bin .or .u8 (.ite (.and (.cmp .neq (.bin .and .u64 (.iv 2) (.lit (.ofNat 4))) (.lit (.ofNat 0))) (.cmp .neq (.bin .and .u64 (.iv 0) (.lit (.ofNat 4))) (.lit (.ofNat 0)))) (.lit (.ofNat 4)) (.lit (.ofNat 0))) (.bin .or .u8 (.ite (.and (.cmp .neq (.bin .and .u64 (.iv 2) (.lit (.ofNat 2))) (.lit (.ofNat 0))) (.cmp .neq (.bin .and .u64 (.iv 0) (.lit (.ofNat 2))) (.lit (.ofNat 0)))) (.lit (.ofNat 2)) (.lit (.ofNat 0))) (.ite (.and (.cmp .neq (.bin .and .u64 (.iv 2) (.lit (.ofNat 1))) (.lit (.ofNat 0))) (.cmp .neq (.bin .and .u64 (.iv 0) (.lit (.ofNat 1))) (.lit (.ofNat 0)))) (.lit (.ofNat 1)) (.lit (.ofNat 0)))))))))), .cb (.or (.bv 3) (.bv 1))])
def ss51 : List SV := [.agg [.ci .u8 (.iv 0), .cb (.bv 1)], .agg [.ci .u8 (.iv 2), .cb (.bv 3)]]
def ks51 : List LK := [.i .u8, .b, .i .u8, .b]
theorem args51 : argTs Try.prog Try.f51.params.toList 0 = some (ss51, ks51) := by kernel_rfl
theorem tree51 : (tree Try.prog 12 (sumsIn sums28) 300 51 ss51 bare 0 ⟨ks51.map LK.rg, []⟩).small ⟨ks51.map LK.rg, []⟩ = some v51 := by kernel_rfl
def sums51 : List Sm := ⟨51, ss51, ks51, v51⟩ :: sums28
theorem sok51 : SumsOk Try.prog sums51 := sums_norm mixed sok28 args51 tree51 (by kernel_rfl)
def v52 : ST := .v (.agg [.ci .u8 (.ite (.or (.cmp .lss (.iv 2) (.lit (.ofNat 0))) (.cmp .gtr (.iv 2) (.lit (.ofNat 7)))) (.lit (.ofNat 0)) (.bin .and .u8 (.bin .shr .u8 (.iv 0) (.iv 2)) (.lit (.ofNat 1)))), .cb (.bv 1)])
def ss52 : List SV := [.agg [.ci .u8 (.iv 0), .cb (.bv 1)], .c (.ci .i64 (.iv 2))]
def ks52 : List LK := [.i .u8, .b, .i .i64]
theorem args52 : argTs Try.prog Try.f52.params.toList 0 = some (ss52, ks52) := by kernel_rfl
theorem tree52 : (tree Try.prog 12 (sumsIn sums51) 300 52 ss52 bare 0 ⟨ks52.map LK.rg, []⟩).small ⟨ks52.map LK.rg, []⟩ = some v52 := by kernel_rfl
def sums52 : List Sm := ⟨52, ss52, ks52, v52⟩ :: sums51
theorem sok52 : SumsOk Try.prog sums52 := sums_norm mixed sok51 args52 tree52 (by kernel_rfl)
def x29_4 : X := .cmp .neq (.bin .and .u64 (.iv 4) (.lit (.ofNat 128))) (.lit (.ofNat 0))
def x29_8 : X := .cmp .neq (.bin .and .u64 (.iv 4) (.lit (.ofNat 64))) (.lit (.ofNat 0))
def x29_76 : X := .ite (.cmp .eql (.bin .or .u8 (.ite (.and x29_4 (.cmp .neq (.bin .and .u64 (.iv 2) (.lit (.ofNat 128))) (.lit (.ofNat 0)))) (.lit (.ofNat 128)) (.lit (.ofNat 0))) (.bin .or .u8 (.ite (.and x29_8 (.cmp .neq (.bin .and .u64 (.iv 2) (.lit (.ofNat 64))) (.lit (.ofNat 0)))) (.lit (.ofNat 64)) (.lit (.ofNat 0))) (.bin .or .u8 (.ite (.and (.cmp .neq (.bin .and .u64 (.iv 4) (.lit (.ofNat 32))) (.lit (.ofNat 0))) (.cmp .neq (.bin .and .u64 (.iv 2) (.lit (.ofNat 32))) (.lit (.ofNat 0)))) (.lit (.ofNat 32)) (.lit (.ofNat 0))) (.bin .or .u8 (.ite (.and (.cmp .neq (.bin .and .u64 (.iv 4) (.lit (.ofNat 16))) (.lit (.ofNat 0))) (.cmp .neq (.bin .and .u64 (.iv 2) (.lit (.ofNat 16))) (.lit (.ofNat 0)))) (.lit (.ofNat 16)) (.lit (.ofNat 0))) (.bin .or .u8 (.ite (.and (.cmp .neq (.bin .and .u64 (.iv 4) (.lit (.ofNat 8))) (.lit (.ofNat 0))) (.cmp .neq (.bin .and .u64 (.iv 2) (.lit (.ofNat 8))) (.lit (.ofNat 0)))) (.lit (.ofNat 8)) (.lit (.ofNat 0))) (.bin .or .u8 (.ite (.and (.cmp .neq (.bin .and .u64 (.iv 4) (.lit (.ofNat 4))) (.lit (.ofNat 0))) (.cmp .neq (.bin .and .u64 (.iv 2) (.lit (.ofNat 4))) (.lit (.ofNat 0)))) (.lit (.ofNat 4)) (.lit (.ofNat 0))) (.bin .or .u8 (.ite (.and (.cmp .neq (.bin .and .u64 (.iv 4) (.lit (.ofNat 2))) (.lit (.ofNat 0))) (.cmp .neq (.bin .and .u64 (.iv 2) (.lit (.ofNat 2))) (.lit (.ofNat 0)))) (.lit (.ofNat 2)) (.lit (.ofNat 0))) (.ite (.and (.cmp .neq (.bin .and .u64 (.iv 4) (.lit (.ofNat 1))) (.lit (.ofNat 0))) (.cmp .neq (.bin .and .u64 (.iv 2) (.lit (.ofNat 1))) (.lit (.ofNat 0)))) (.lit (.ofNat 1)) (.lit (.ofNat 0)))))))))) (.lit (.ofNat 0))) (.lit (.ofNat 2)) (.lit (.ofNat 0))
def v29 : ST := .v (.agg [.ci .u8 (.bin .or .u8 (.ite x29_4 (.lit (.ofNat 128)) (.lit (.ofNat 0))) (.bin .or .u8 (.ite x29_8 (.lit (.ofNat 64)) (.lit (.ofNat 0))) (.bin .or .u8 (.ite (.cmp .neq (.bin .and .u64 (.iv 0) (.lit (.ofNat 8))) (.lit (.ofNat 0))) (.lit (.ofNat 8)) (.lit (.ofNat 0))) (.bin .or .u8 (.ite (.cmp .neq (.bin .and .u64 (.iv 0) (.lit (.ofNat 4))) (.lit (.ofNat 0))) (.lit (.ofNat 4)) (.lit (.ofNat 0))) (.bin .or .u8 x29_76 (.ite (.cmp .neq (.bin .and .u64 (.iv 0) (.lit (.ofNat 1))) (.lit (.ofNat 0))) (.lit (.ofNat 1)) (.lit (.ofNat 0)))))))), .ci .u8 (.bin .or .u8 (.ite (.bv 5) (.lit (.ofNat 128)) (.lit (.ofNat 0))) (.bin .or .u8 (.ite (.bv 5) (.lit (.ofNat 64)) (.lit (.ofNat 0))) (.bin .or .u8 (.ite (.cmp .neq (.bin .and .u64 (.iv 1) (.lit (.ofNat 8))) (.lit (.ofNat 0))) (.lit (.ofNat 8)) (.lit (.ofNat 0))) (.bin .or .u8 (.ite (.cmp .neq (.bin .and .u64 (.iv 1) (.lit (.ofNat 4))) (.lit (.ofNat 0))) (.lit (.ofNat 4)) (.lit (.ofNat 0))) (.bin .or .u8 (.ite (.or (.bv 5) (.bv 3)) (.lit (.ofNat 2)) (.lit (.ofNat 0))) (.ite (.cmp .neq (.bin .and .u64 (.iv 1) (.lit (.ofNat 1))) (.lit (.ofNat 0))) (.lit (.ofNat 1)) (.lit (.ofNat 0))))))))])
def ss29 : List SV := [.agg [.ci .u8 (.iv 0), .ci .u8 (.iv 1)], .agg [.ci .u8 (.iv 2), .cb (.bv 3)], .agg [.ci .u8 (.iv 4), .cb (.bv 5)]]
def ks29 : List LK := [.i .u8, .i .u8, .i .u8, .b, .i .u8, .b]
theorem args29 : argTs Try.prog Try.f29.params.toList 0 = some (ss29, ks29) := by kernel_rfl
theorem tree29 : (tree Try.prog 12 (sumsIn sums52) 300 29 ss29 bare 0 ⟨ks29.map LK.rg, []⟩).small ⟨ks29.map LK.rg, []⟩ = some v29 := by kernel_rfl
def sums29 : List Sm := ⟨29, ss29, ks29, v29⟩ :: sums52
theorem sok29 : SumsOk Try.prog sums29 := sums_norm mixed sok52 args29 tree29 (by kernel_rfl)
def v53 : ST := .v (.agg [.ci .u8 (.bin .or .i64 (.ite (.and (.cmp .neq (.bin .and .u64 (.iv 2) (.lit (.ofNat 128))) (.lit (.ofNat 0))) (.cmp .neq (.bin .and .u64 (.iv 0) (.lit (.ofNat 128))) (.lit (.ofNat 0)))) (.lit (.ofNat 128)) (.lit (.ofNat 0))) (.bin .or .i64 (.ite (.and (.cmp .neq (.bin .and .u64 (.iv 2) (.lit (.ofNat 64))) (.lit (.ofNat 0))) (.cmp .neq (.bin .and .u64 (.iv 0) (.lit (.ofNat 64))) (.lit (.ofNat 0)))) (.lit (.ofNat 64)) (.lit (.ofNat 0))) (.bin .or .i64 (.ite (.and (.cmp .neq (.bin .and .u64 (.iv 2) (.lit (.ofNat 32))) (.lit (.ofNat 0))) (.cmp .neq (.bin .and .u64 (.iv 0) (.lit (.ofNat 32))) (.lit (.ofNat 0)))) (.lit (.ofNat 32)) (.lit (.ofNat 0))) (.bin .or .i64 (.ite (.and (.cmp .neq (.bin .and .u64 (.iv 2) (.lit (.ofNat 16))) (.lit (.ofNat 0))) (.cmp .neq (.bin .and .u64 (.iv 0) (.lit (.ofNat 16))) (.lit (.ofNat 0)))) (.lit (.ofNat 16)) (.lit (.ofNat 0))) (.bin .or .i64 (.ite (.and (.cmp .neq (.bin .and .u64 (.iv 2) (.lit (.ofNat 8))) (.lit (.ofNat 0))) (.cmp .neq (.bin .and .u64 (.iv 0) (.lit (.ofNat 8))) (.lit (.ofNat 0)))) (.lit (.ofNat 8)) (.lit (.ofNat 0))) (.bin .or .i64 (.ite (.and (.cmp .neq (.bin .and .u64 (.iv 2) (.lit (.ofNat 4))) (.lit (.ofNat 0))) (.cmp .neq (.bin .and .u64 (.iv 0) (.lit (.ofNat 4))) (.lit (.ofNat 0)))) (.lit (.ofNat 4)) (.lit (.ofNat 0))) (.bin .or .i64 (.ite (.and (.cmp .neq (.bin .and .u64 (.iv 2) (.lit (.ofNat 2))) (.lit (.ofNat 0))) (.cmp .neq (.bin .and .u64 (.iv 0) (.lit (.ofNat 2))) (.lit (.ofNat 0)))) (.lit (.ofNat 2)) (.lit (.ofNat 0))) (.ite (.and (.cmp .neq (.bin .and .u64 (.iv 2) (.lit (.ofNat 1))) (.lit (.ofNat 0))) (.cmp .neq (.bin .and .u64 (.iv 0) (.lit (.ofNat 1))) (.lit (.ofNat 0)))) (.lit (.ofNat 1)) (.lit (.ofNat 0)))))))))), .cb (.or (.bv 3) (.bv 1))])
def ss53 : List SV := [.agg [.ci .u8 (.iv 0), .cb (.bv 1)], .agg [.ci .u8 (.iv 2), .cb (.bv 3)]]
def ks53 : List LK := [.i .u8, .b, .i .u8, .b]
theorem args53 : argTs Try.prog Try.f53.params.toList 0 = some (ss53, ks53) := by kernel_rfl
theorem tree53 : (tree Try.prog 12 (sumsIn sums29) 300 53 ss53 bare 0 ⟨ks53.map LK.rg, []⟩).small ⟨ks53.map LK.rg, []⟩ = some v53 := by kernel_rfl
def sums53 : List Sm := ⟨53, ss53, ks53, v53⟩ :: sums29
theorem sok53 : SumsOk Try.prog sums53 := sums_norm mixed sok29 args53 tree53 (by kernel_rfl)
def x30_7 : X := .cmp .neq (.bin .and .u64 (.iv 4) (.lit (.ofNat 64))) (.lit (.ofNat 0))
def x30_77 : X := .ite (.cmp .eql (.bin .or .i64 (.ite (.and (.cmp .neq (.bin .and .u64 (.iv 4) (.lit (.ofNat 128))) (.lit (.ofNat 0))) (.cmp .neq (.bin .and .u64 (.iv 2) (.lit (.ofNat 128))) (.lit (.ofNat 0)))) (.lit (.ofNat 128)) (.lit (.ofNat 0))) (.bin .or .i64 (.ite (.and x30_7 (.cmp .neq (.bin .and .u64 (.iv 2) (.lit (.ofNat 64))) (.lit (.ofNat 0)))) (.lit (.ofNat 64)) (.lit (.ofNat 0))) (.bin .or .i64 (.ite (.and (.cmp .neq (.bin .and .u64 (.iv 4) (.lit (.ofNat 32))) (.lit (.ofNat 0))) (.cmp .neq (.bin .and .u64 (.iv 2) (.lit (.ofNat 32))) (.lit (.ofNat 0)))) (.lit (.ofNat 32)) (.lit (.ofNat 0))) (.bin .or .i64 (.ite (.and (.cmp .neq (.bin .and .u64 (.iv 4) (.lit (.ofNat 16))) (.lit (.ofNat 0))) (.cmp .neq (.bin .and .u64 (.iv 2) (.lit (.ofNat 16))) (.lit (.ofNat 0)))) (.lit (.ofNat 16)) (.lit (.ofNat 0))) (.bin .or .i64 (.ite (.and (.cmp .neq (.bin .and .u64 (.iv 4) (.lit (.ofNat 8))) (.lit (.ofNat 0))) (.cmp .neq (.bin .and .u64 (.iv 2) (.lit (.ofNat 8))) (.lit (.ofNat 0)))) (.lit (.ofNat 8)) (.lit (.ofNat 0))) (.bin .or .i64 (.ite (.and (.cmp .neq (.bin .and .u64 (.iv 4) (.lit (.ofNat 4))) (.lit (.ofNat 0))) (.cmp .neq (.bin .and .u64 (.iv 2) (.lit (.ofNat 4))) (.lit (.ofNat 0)))) (.lit (.ofNat 4)) (.lit (.ofNat 0))) (.bin .or .i64 (.ite (.and (.cmp .neq (.bin .and .u64 (.iv 4) (.lit (.ofNat 2))) (.lit (.ofNat 0))) (.cmp .neq (.bin .and .u64 (.iv 2) (.lit (.ofNat 2))) (.lit (.ofNat 0)))) (.lit (.ofNat 2)) (.lit (.ofNat 0))) (.ite (.and (.cmp .neq (.bin .and .u64 (.iv 4) (.lit (.ofNat 1))) (.lit (.ofNat 0))) (.cmp .neq (.bin .and .u64 (.iv 2) (.lit (.ofNat 1))) (.lit (.ofNat 0)))) (.lit (.ofNat 1)) (.lit (.ofNat 0)))))))))) (.lit (.ofNat 0))) (.lit (.ofNat 2)) (.lit (.ofNat 0))
def v30 : ST := .v (.agg [.ci .u8 (.bin .or .u8 (.ite (.cmp .geq (.iv 4) (.lit (.ofNat 128))) (.lit (.ofNat 128)) (.lit (.ofNat 0))) (.bin .or .u8 (.ite x30_7 (.lit (.ofNat 64)) (.lit (.ofNat 0))) (.bin .or .u8 (.ite (.cmp .neq (.bin .and .u64 (.iv 0) (.lit (.ofNat 8))) (.lit (.ofNat 0))) (.lit (.ofNat 8)) (.lit (.ofNat 0))) (.bin .or .u8 (.ite (.cmp .neq (.bin .and .u64 (.iv 0) (.lit (.ofNat 4))) (.lit (.ofNat 0))) (.lit (.ofNat 4)) (.lit (.ofNat 0))) (.bin .or .u8 x30_77 (.ite (.cmp .neq (.bin .and .u64 (.iv 0) (.lit (.ofNat 1))) (.lit (.ofNat 0))) (.lit (.ofNat 1)) (.lit (.ofNat 0)))))))), .ci .u8 (.bin .or .u8 (.ite (.bv 5) (.lit (.ofNat 128)) (.lit (.ofNat 0))) (.bin .or .u8 (.ite (.bv 5) (.lit (.ofNat 64)) (.lit (.ofNat 0))) (.bin .or .u8 (.ite (.cmp .neq (.bin .and .u64 (.iv 1) (.lit (.ofNat 8))) (.lit (.ofNat 0))) (.lit (.ofNat 8)) (.lit (.ofNat 0))) (.bin .or .u8 (.ite (.cmp .neq (.bin .and .u64 (.iv 1) (.lit (.ofNat 4))) (.lit (.ofNat 0))) (.lit (.ofNat 4)) (.lit (.ofNat 0))) (.bin .or .u8 (.ite (.or (.bv 5) (.bv 3)) (.lit (.ofNat 2)) (.lit (.ofNat 0))) (.ite (.cmp .neq (.bin .and .u64 (.iv 1) (.lit (.ofNat 1))) (.lit (.ofNat 0))) (.lit (.ofNat 1)) (.lit (.ofNat 0))))))))])
def ss30 : List SV := [.agg [.ci .u8 (.iv 0), .ci .u8 (.iv 1)], .agg [.ci .u8 (.iv 2), .cb (.bv 3)], .agg [.ci .u8 (.iv 4), .cb (.bv 5)]]
def ks30 : List LK := [.i .u8, .i .u8, .i .u8, .b, .i .u8, .b]
theorem args30 : argTs Try.prog Try.f30.params.toList 0 = some (ss30, ks30) := by kernel_rfl
theorem tree30 : (tree Try.prog 12 (sumsIn sums53) 300 30 ss30 bare 0 ⟨ks30.map LK.rg, []⟩).small ⟨ks30.map LK.rg, []⟩ = some v30 := by kernel_rfl
def sums30 : List Sm := ⟨30, ss30, ks30, v30⟩ :: sums53
theorem sok30 : SumsOk Try.prog sums30 := sums_norm mixed sok53 args30 tree30 (by kernel_rfl)
def v17 : ST := .v (.agg [.ci .u8 (.bin .or .u8 (.ite (.cmp .neq (.bin .and .u64 (.iv 0) (.lit (.ofNat 128))) (.lit (.ofNat 0))) (.lit (.ofNat 128)) (.lit (.ofNat 0))) (.bin .or .u8 (.ite (.cmp .neq (.bin .and .u64 (.iv 0) (.lit (.ofNat 64))) (.lit (.ofNat 0))) (.lit (.ofNat 64)) (.lit (.ofNat 0))) (.bin .or .u8 (.lit (.ofNat 32)) (.bin .or .u8 (.ite (.bv 2) (.lit (.ofNat 16)) (.lit (.ofNat 0))) (.bin .or .u8 (.ite (.cmp .neq (.bin .and .u64 (.iv 0) (.lit (.ofNat 8))) (.lit (.ofNat 0))) (.lit (.ofNat 8)) (.lit (.ofNat 0))) (.bin .or .u8 (.ite (.cmp .neq (.bin .and .u64 (.iv 0) (.lit (.ofNat 4))) (.lit (.ofNat 0))) (.lit (.ofNat 4)) (.lit (.ofNat 0))) (.bin .or .u8 (.ite (.cmp .neq (.bin .and .u64 (.iv 0) (.lit (.ofNat 2))) (.lit (.ofNat 0))) (.lit (.ofNat 2)) (.lit (.ofNat 0))) (.ite (.cmp .neq (.bin .and .u64 (.iv 0) (.lit (.ofNat 1))) (.lit (.ofNat 0))) (.lit (.ofNat 1)) (.lit (.ofNat 0)))))))))), .cb (.or (.cmp .neq (.bin .and .u64 (.iv 1) (.lit (.ofNat 128))) (.lit (.ofNat 0))) (.or (.cmp .neq (.bin .and .u64 (.iv 1) (.lit (.ofNat 64))) (.lit (.ofNat 0))) (.or (.cmp .neq (.bin .and .u64 (.iv 1) (.lit (.ofNat 8))) (.lit (.ofNat 0))) (.or (.cmp .neq (.bin .and .u64 (.iv 1) (.lit (.ofNat 4))) (.lit (.ofNat 0))) (.or (.cmp .neq (.bin .and .u64 (.iv 1) (.lit (.ofNat 2))) (.lit (.ofNat 0))) (.cmp .neq (.bin .and .u64 (.iv 1) (.lit (.ofNat 1))) (.lit (.ofNat 0))))))))])
def ss17 : List SV := [.agg [.ci .u8 (.iv 0), .ci .u8 (.iv 1)], .c (.cb (.bv 2))]
def ks17 : List LK := [.i .u8, .i .u8, .b]
theorem args17 : argTs Try.prog Try.f17.params.toList 0 = some (ss17, ks17) := by kernel_rfl
theorem tree17 : (tree Try.prog 12 (sumsIn sums30) 300 17 ss17 bare 0 ⟨ks17.map LK.rg, []⟩).small ⟨ks17.map LK.rg, []⟩ = some v17 := by kernel_rfl
def sums17 : List Sm := ⟨17, ss17, ks17, v17⟩ :: sums30
theorem sok17 : SumsOk Try.prog sums17 := sums_norm mixed sok30 args17 tree17 (by kernel_rfl)
def v21 : ST := .v (.c (.cb (.bl true)))
def ss21 : List SV := []
def ks21 : List LK := []
theorem args21 : argTs Try.prog Try.f21.params.toList 0 = some (ss21, ks21) := by kernel_rfl
theorem tree21 : (tree Try.prog 12 (sumsIn sums17) 300 21 ss21 bare 0 ⟨ks21.map LK.rg, []⟩).small ⟨ks21.map LK.rg, []⟩ = some v21 := by kernel_rfl
def sums21 : List Sm := ⟨21, ss21, ks21, v21⟩ :: sums17
theorem sok21 : SumsOk Try.prog sums21 := sums_norm mixed sok17 args21 tree21 (by kernel_rfl)
def ss4 : List SV := [.agg [.ci .u8 (.iv 0), .ci .u8 (.iv 1), .ci .u8 (.iv 2), .cb (.bv 3), .ci .u8 (.iv 4), .cb (.bv 5), .ci .u8 (.iv 6), .cb (.bv 7)]]
def ks4 : List LK := [.i .u8, .i .u8, .i .u8, .b, .i .u8, .b, .i .u8, .b]
theorem args4 : argTs Try.prog Try.f4.params.toList 0 = some (ss4, ks4) := by kernel_rfl
def K_ : Known := (⟨ks4.map LK.rg, []⟩ : Known)
theorem leaf_ : (tree Try.prog 12 (sumsIn sums21) 300 4 ss4 bare 0 K_).prove 300 100 K_ = true := by kernel_rfl
theorem plan4 : ∀ ρ, (⟨ks4.map LK.rg, []⟩ : Known).ok ρ → ∃ K d, K.ok ρ ∧ (tree Try.prog 12 (sumsIn sums21) 300 4 ss4 bare d K).prove 300 100 K = true := fun ρ h => ⟨K_, 0, h, leaf_⟩

def zeros : Env := ⟨fun _ => 0, fun _ => false, fun _ _ => 0, fun _ _ => false, fun _ => .bool false⟩
set_option maxRecDepth 100000 in
theorem lifted4 (os : Os) (started : os.Started) (H : Type) (enc : TypeId × Value → H) :
    ReturnsInHanded {} Try.checked os 4 .any (Rows.aluAddsSpec.pre6 enc Try.prog Try.f4 Rows.aluAddsRow.domain false) (Rows.aluAddsSpec.post enc Try.prog Try.f4 false true false false) := by
  refine returnsInHanded_of_change (C := Try.checked) own started (by kernel_rfl) Try.func4
    (ChangeSpec.witness6 (enc := enc) (C := Try.checked) false ⟨#[], (ss4.map (SV.den zeros fun _ => 0)).toArray, []⟩ 8 (by kernel_rfl) (by kernel_rfl) (by kernel_rfl) (by kernel_rfl)) ?_
  intro W base args ds gs before hval0 hW _ _
  have hval : ∀ (j : Nat) t v, Try.f4.params[j]? = some t → args[j]? = some v → Value.okWide Try.prog W .any base t v := hval0
  have hW' := hW
  obtain ⟨p, q, hA0, hV, rfl, _, _⟩ := hW
  have hA : DataW.TrodAll enc Try.prog W 0 (fun _ => true) true Try.f4.params.toList args.toList ds p := hA0
  obtain ⟨rfl, rfl⟩ := trodVars_none hV
  have hA1 := hA
  rw [Try.params4] at hA1
  obtain ⟨v0, d0, e1, rfl, _⟩ := trodAll_one hA1
  refine (flat_plan (r := .any) (base := base) mixed sok21 args4 plan4 (w := W) (by rw [e1]; rfl) (fun j t v ht hv => hval j t v (by simpa using ht) hv)).mono fun e W' ⟨⟨v, he, hv⟩, hb⟩ => ?_
  subst hv
  subst he
  exact ⟨_, rfl, law_post (tb := 4) laid rfl (by rw [Try.params4]; intro t ht; simp at ht; first | (subst ht; exact ⟨by kernel_rfl, of_decide_eq_true (by kernel_rfl)⟩) | (rcases ht with rfl | rfl <;> exact ⟨by kernel_rfl, of_decide_eq_true (by kernel_rfl)⟩) | (rcases ht with rfl | rfl | rfl <;> exact ⟨by kernel_rfl, of_decide_eq_true (by kernel_rfl)⟩)) rfl Try.underlying4 hW' hA hb ⟨rfl, rfl, rfl⟩⟩

theorem aluAdds_holds : Rows.AluAddsSaid :=
  OpenClaim.holds_of_wide 4 Try.f4 rfl rfl rfl rfl rfl rfl rfl ⟨rfl, rfl, rfl, rfl, rfl⟩ rfl rfl rfl rfl rfl (by kernel_rfl) Try.func4 (by kernel_rfl)
    (of_decide_eq_true (by kernel_rfl)) (by unfold Func.isWrapper; first | (rw [if_pos (by decide +kernel)]; kernel_rfl) | (rw [if_neg (by decide +kernel)]; exact ⟨rfl, rfl⟩))
    (fun os started H enc _ => lifted4 os started H enc)
#print axioms aluAdds_holds
end Go.Proofs.Ytdgjenlejalgeaa
