/- For every input AluShifts answers true. -/
import Derived.Test.YtdgjenlejalgeaaRows
import Derived.Test.YtdgjenlejalgeaaSx21
namespace Go.Proofs.Ytdgjenlejalgeaa
open Go.ChangeShapes Go.WideShapes Go.ChangeAt Go.RowKit Go.Sx

theorem own : ownKnob Try.prog.godebug = none := by kernel_rfl
theorem laid : laidOutB Try.prog = true := by kernel_rfl
theorem mixed : Try.prog.follows .mixedOrders = true := by kernel_rfl

def v41 : ST := .v (.c (.ci .u8 (.bin .add .u8 (.bin .rem .u8 (.iv 0) (.lit (.ofNat 16))) (.bin .mul .u8 (.bin .quo .u8 (.iv 0) (.lit (.ofNat 64))) (.lit (.ofNat 64))))))
def ss41 : List SV := [.c (.ci .u8 (.iv 0))]
def ks41 : List LK := [.i .u8]
theorem args41 : argTs Try.prog Try.f41.params.toList 0 = some (ss41, ks41) := by kernel_rfl
theorem tree41 : tree Try.prog 12 (sumsIn []) 300 41 ss41 bare 0 ⟨ks41.map LK.rg, []⟩ = .leaf v41 := by kernel_rfl
def sums41 : List Sm := ⟨41, ss41, ks41, v41⟩ :: []
theorem sok41 : SumsOk Try.prog sums41 := sums_cons mixed sums_nil args41 tree41 (by kernel_rfl)
def x42_4 : X := .cmp .neq (.bin .and .u64 (.iv 1) (.lit (.ofNat 1))) (.lit (.ofNat 0))
def x42_7 : X := .cmp .neq (.bin .and .u64 (.iv 0) (.lit (.ofNat 1))) (.lit (.ofNat 0))
def x42_14 : X := .cmp .neq (.bin .and .u64 (.iv 1) (.lit (.ofNat 2))) (.lit (.ofNat 0))
def x42_16 : X := .cmp .neq (.bin .and .u64 (.iv 0) (.lit (.ofNat 2))) (.lit (.ofNat 0))
def x42_23 : X := .cmp .neq (.bin .and .u64 (.iv 1) (.lit (.ofNat 4))) (.lit (.ofNat 0))
def x42_25 : X := .cmp .neq (.bin .and .u64 (.iv 0) (.lit (.ofNat 4))) (.lit (.ofNat 0))
def x42_32 : X := .cmp .neq (.bin .and .u64 (.iv 1) (.lit (.ofNat 8))) (.lit (.ofNat 0))
def x42_34 : X := .cmp .neq (.bin .and .u64 (.iv 0) (.lit (.ofNat 8))) (.lit (.ofNat 0))
def x42_41 : X := .cmp .neq (.bin .and .u64 (.iv 1) (.lit (.ofNat 16))) (.lit (.ofNat 0))
def x42_43 : X := .cmp .neq (.bin .and .u64 (.iv 0) (.lit (.ofNat 16))) (.lit (.ofNat 0))
def x42_53 : X := .cmp .neq (.bin .and .u64 (.iv 1) (.lit (.ofNat 64))) (.lit (.ofNat 0))
def x42_56 : X := .cmp .neq (.bin .and .u64 (.iv 1) (.lit (.ofNat 32))) (.lit (.ofNat 0))
def x42_58 : X := .cmp .neq (.bin .and .u64 (.iv 0) (.lit (.ofNat 128))) (.lit (.ofNat 0))
def x42_60 : X := .cmp .neq (.bin .and .u64 (.iv 0) (.lit (.ofNat 64))) (.lit (.ofNat 0))
def x42_62 : X := .cmp .neq (.bin .and .u64 (.iv 0) (.lit (.ofNat 32))) (.lit (.ofNat 0))
def x42_63 : X := .or x42_60 x42_62
def x42_83 : X := .or (.and x42_4 x42_7) (.and (.or (.not x42_4) (.not x42_7)) (.or (.and x42_14 x42_16) (.and (.or (.not x42_14) (.not x42_16)) (.or (.and x42_23 x42_25) (.and (.or (.not x42_23) (.not x42_25)) (.or (.and x42_32 x42_34) (.and (.or (.not x42_32) (.not x42_34)) (.or (.and x42_41 x42_43) (.and (.or (.not x42_41) (.not x42_43)) (.ite (.cmp .neq (.bin .and .u64 (.iv 1) (.lit (.ofNat 128))) (.lit (.ofNat 0))) (.ite x42_53 (.ite x42_56 (.or x42_58 x42_63) (.or x42_58 x42_60)) (.ite x42_56 (.or x42_58 x42_62) x42_58)) (.ite x42_53 (.ite x42_56 x42_63 x42_60) (.and x42_56 x42_62))))))))))))
def v42 : ST := .v (.c (.cb x42_83))
def ss42 : List SV := [.c (.ci .u8 (.iv 0)), .c (.ci .u8 (.iv 1))]
def ks42 : List LK := [.i .u8, .i .u8]
theorem args42 : argTs Try.prog Try.f42.params.toList 0 = some (ss42, ks42) := by kernel_rfl
theorem tree42 : (tree Try.prog 12 (sumsIn sums41) 300 42 ss42 bare 0 ⟨ks42.map LK.rg, []⟩).small ⟨ks42.map LK.rg, []⟩ = some v42 := by kernel_rfl
def sums42 : List Sm := ⟨42, ss42, ks42, v42⟩ :: sums41
theorem sok42 : SumsOk Try.prog sums42 := sums_norm mixed sok41 args42 tree42 (by kernel_rfl)
def x12_4 : X := .cmp .neq (.bin .and .u64 (.iv 2) (.lit (.ofNat 1))) (.lit (.ofNat 0))
def x12_7 : X := .cmp .neq (.bin .and .u64 (.iv 0) (.lit (.ofNat 1))) (.lit (.ofNat 0))
def x12_9 : X := .not x12_4
def x12_14 : X := .cmp .neq (.bin .and .u64 (.iv 2) (.lit (.ofNat 2))) (.lit (.ofNat 0))
def x12_16 : X := .cmp .neq (.bin .and .u64 (.iv 0) (.lit (.ofNat 2))) (.lit (.ofNat 0))
def x12_18 : X := .not x12_14
def x12_23 : X := .cmp .neq (.bin .and .u64 (.iv 2) (.lit (.ofNat 4))) (.lit (.ofNat 0))
def x12_25 : X := .cmp .neq (.bin .and .u64 (.iv 0) (.lit (.ofNat 4))) (.lit (.ofNat 0))
def x12_27 : X := .not x12_23
def x12_32 : X := .cmp .neq (.bin .and .u64 (.iv 2) (.lit (.ofNat 8))) (.lit (.ofNat 0))
def x12_34 : X := .cmp .neq (.bin .and .u64 (.iv 0) (.lit (.ofNat 8))) (.lit (.ofNat 0))
def x12_36 : X := .not x12_32
def x12_41 : X := .cmp .neq (.bin .and .u64 (.iv 2) (.lit (.ofNat 128))) (.lit (.ofNat 0))
def x12_44 : X := .cmp .neq (.bin .and .u64 (.iv 2) (.lit (.ofNat 64))) (.lit (.ofNat 0))
def x12_46 : X := .cmp .neq (.bin .and .u64 (.iv 0) (.lit (.ofNat 128))) (.lit (.ofNat 0))
def x12_48 : X := .cmp .neq (.bin .and .u64 (.iv 0) (.lit (.ofNat 64))) (.lit (.ofNat 0))
def x12_64 : X := .cmp .neq (.bin .and .u64 (.iv 1) (.lit (.ofNat 1))) (.lit (.ofNat 0))
def x12_69 : X := .cmp .neq (.bin .and .u64 (.iv 1) (.lit (.ofNat 2))) (.lit (.ofNat 0))
def x12_74 : X := .cmp .neq (.bin .and .u64 (.iv 1) (.lit (.ofNat 4))) (.lit (.ofNat 0))
def x12_79 : X := .cmp .neq (.bin .and .u64 (.iv 1) (.lit (.ofNat 8))) (.lit (.ofNat 0))
def x12_84 : X := .cmp .neq (.bin .and .u64 (.iv 1) (.lit (.ofNat 128))) (.lit (.ofNat 0))
def x12_86 : X := .cmp .neq (.bin .and .u64 (.iv 1) (.lit (.ofNat 64))) (.lit (.ofNat 0))
def v12 : ST := .v (.agg [.ci .u8 (.ite (.or (.and x12_4 x12_7) (.and (.or x12_9 (.not x12_7)) (.or (.and x12_14 x12_16) (.and (.or x12_18 (.not x12_16)) (.or (.and x12_23 x12_25) (.and (.or x12_27 (.not x12_25)) (.or (.and x12_32 x12_34) (.and (.or x12_36 (.not x12_34)) (.ite x12_41 (.ite x12_44 (.or x12_46 x12_48) x12_46) (.and x12_44 x12_48)))))))))) (.lit (.ofNat 1)) (.lit (.ofNat 0))), .cb (.or (.and x12_4 x12_64) (.and (.or x12_9 (.not x12_64)) (.or (.and x12_14 x12_69) (.and (.or x12_18 (.not x12_69)) (.or (.and x12_23 x12_74) (.and (.or x12_27 (.not x12_74)) (.or (.and x12_32 x12_79) (.and (.or x12_36 (.not x12_79)) (.ite x12_41 (.ite x12_44 (.or x12_84 x12_86) x12_84) (.and x12_44 x12_86))))))))))])
def ss12 : List SV := [.agg [.ci .u8 (.iv 0), .ci .u8 (.iv 1)], .c (.ci .u8 (.iv 2))]
def ks12 : List LK := [.i .u8, .i .u8, .i .u8]
theorem args12 : argTs Try.prog Try.f12.params.toList 0 = some (ss12, ks12) := by kernel_rfl
theorem tree12 : tree Try.prog 12 (sumsIn sums42) 300 12 ss12 bare 0 ⟨ks12.map LK.rg, []⟩ = .leaf v12 := by kernel_rfl
def sums12 : List Sm := ⟨12, ss12, ks12, v12⟩ :: sums42
theorem sok12 : SumsOk Try.prog sums12 := sums_cons mixed sok42 args12 tree12 (by kernel_rfl)
def v52 : ST := .v (.agg [.ci .u8 (.ite (.or (.cmp .lss (.iv 2) (.lit (.ofNat 0))) (.cmp .gtr (.iv 2) (.lit (.ofNat 7)))) (.lit (.ofNat 0)) (.bin .and .u8 (.bin .shr .u8 (.iv 0) (.iv 2)) (.lit (.ofNat 1)))), .cb (.bv 1)])
def ss52 : List SV := [.agg [.ci .u8 (.iv 0), .cb (.bv 1)], .c (.ci .i64 (.iv 2))]
def ks52 : List LK := [.i .u8, .b, .i .i64]
theorem args52 : argTs Try.prog Try.f52.params.toList 0 = some (ss52, ks52) := by kernel_rfl
theorem tree52 : tree Try.prog 12 (sumsIn sums12) 300 52 ss52 bare 0 ⟨ks52.map LK.rg, []⟩ = .leaf v52 := by kernel_rfl
def sums52 : List Sm := ⟨52, ss52, ks52, v52⟩ :: sums12
theorem sok52 : SumsOk Try.prog sums52 := sums_cons mixed sok12 args52 tree52 (by kernel_rfl)
def v9 : ST := .v (.agg [.ci .u8 (.bin .and .u8 (.iv 0) (.lit (.ofNat 207))), .ci .u8 (.bin .and .u8 (.iv 1) (.lit (.ofNat 207)))])
def ss9 : List SV := [.agg [.ci .u8 (.iv 0), .ci .u8 (.iv 1)]]
def ks9 : List LK := [.i .u8, .i .u8]
theorem args9 : argTs Try.prog Try.f9.params.toList 0 = some (ss9, ks9) := by kernel_rfl
theorem tree9 : tree Try.prog 12 (sumsIn sums52) 300 9 ss9 bare 0 ⟨ks9.map LK.rg, []⟩ = .leaf v9 := by kernel_rfl
def sums9 : List Sm := ⟨9, ss9, ks9, v9⟩ :: sums52
theorem sok9 : SumsOk Try.prog sums9 := sums_cons mixed sok52 args9 tree9 (by kernel_rfl)
def x13_2 : X := .cmp .neq (.iv 3) (.lit (.ofNat 0))
def x13_6 : X := .cmp .neq (.bin .and .u64 (.iv 2) (.lit (.ofNat 128))) (.lit (.ofNat 0))
def x13_9 : X := .cmp .neq (.bin .and .u64 (.iv 0) (.lit (.ofNat 128))) (.lit (.ofNat 0))
def x13_11 : X := .not x13_6
def x13_17 : X := .cmp .neq (.bin .and .u64 (.iv 2) (.lit (.ofNat 64))) (.lit (.ofNat 0))
def x13_19 : X := .cmp .neq (.bin .and .u64 (.iv 0) (.lit (.ofNat 64))) (.lit (.ofNat 0))
def x13_21 : X := .not x13_17
def x13_27 : X := .cmp .neq (.bin .and .u64 (.iv 2) (.lit (.ofNat 8))) (.lit (.ofNat 0))
def x13_29 : X := .cmp .neq (.bin .and .u64 (.iv 0) (.lit (.ofNat 8))) (.lit (.ofNat 0))
def x13_31 : X := .not x13_27
def x13_37 : X := .cmp .neq (.bin .and .u64 (.iv 2) (.lit (.ofNat 4))) (.lit (.ofNat 0))
def x13_39 : X := .cmp .neq (.bin .and .u64 (.iv 0) (.lit (.ofNat 4))) (.lit (.ofNat 0))
def x13_41 : X := .not x13_37
def x13_47 : X := .cmp .neq (.bin .and .u64 (.iv 2) (.lit (.ofNat 2))) (.lit (.ofNat 0))
def x13_49 : X := .cmp .neq (.bin .and .u64 (.iv 0) (.lit (.ofNat 2))) (.lit (.ofNat 0))
def x13_51 : X := .not x13_47
def x13_57 : X := .cmp .neq (.bin .and .u64 (.iv 2) (.lit (.ofNat 1))) (.lit (.ofNat 0))
def x13_59 : X := .cmp .neq (.bin .and .u64 (.iv 0) (.lit (.ofNat 1))) (.lit (.ofNat 0))
def x13_61 : X := .not x13_57
def x13_73 : X := .cmp .neq (.bin .and .u64 (.iv 1) (.lit (.ofNat 128))) (.lit (.ofNat 0))
def x13_79 : X := .cmp .neq (.bin .and .u64 (.iv 1) (.lit (.ofNat 64))) (.lit (.ofNat 0))
def x13_85 : X := .cmp .neq (.bin .and .u64 (.iv 1) (.lit (.ofNat 8))) (.lit (.ofNat 0))
def x13_91 : X := .cmp .neq (.bin .and .u64 (.iv 1) (.lit (.ofNat 4))) (.lit (.ofNat 0))
def x13_97 : X := .cmp .neq (.bin .and .u64 (.iv 1) (.lit (.ofNat 2))) (.lit (.ofNat 0))
def x13_103 : X := .cmp .neq (.bin .and .u64 (.iv 1) (.lit (.ofNat 1))) (.lit (.ofNat 0))
def v13 : ST := .v (.agg [.ci .u8 (.bin .or .u8 (.ite (.ite x13_2 (.or x13_6 x13_9) (.and x13_11 x13_9)) (.lit (.ofNat 128)) (.lit (.ofNat 0))) (.bin .or .u8 (.ite (.ite x13_2 (.or x13_17 x13_19) (.and x13_21 x13_19)) (.lit (.ofNat 64)) (.lit (.ofNat 0))) (.bin .or .u8 (.ite (.ite x13_2 (.or x13_27 x13_29) (.and x13_31 x13_29)) (.lit (.ofNat 8)) (.lit (.ofNat 0))) (.bin .or .u8 (.ite (.ite x13_2 (.or x13_37 x13_39) (.and x13_41 x13_39)) (.lit (.ofNat 4)) (.lit (.ofNat 0))) (.bin .or .u8 (.ite (.ite x13_2 (.or x13_47 x13_49) (.and x13_51 x13_49)) (.lit (.ofNat 2)) (.lit (.ofNat 0))) (.ite (.ite x13_2 (.or x13_57 x13_59) (.and x13_61 x13_59)) (.lit (.ofNat 1)) (.lit (.ofNat 0)))))))), .ci .u8 (.bin .or .u8 (.ite (.ite (.bv 4) (.or x13_6 x13_73) (.and x13_11 x13_73)) (.lit (.ofNat 128)) (.lit (.ofNat 0))) (.bin .or .u8 (.ite (.ite (.bv 4) (.or x13_17 x13_79) (.and x13_21 x13_79)) (.lit (.ofNat 64)) (.lit (.ofNat 0))) (.bin .or .u8 (.ite (.ite (.bv 4) (.or x13_27 x13_85) (.and x13_31 x13_85)) (.lit (.ofNat 8)) (.lit (.ofNat 0))) (.bin .or .u8 (.ite (.ite (.bv 4) (.or x13_37 x13_91) (.and x13_41 x13_91)) (.lit (.ofNat 4)) (.lit (.ofNat 0))) (.bin .or .u8 (.ite (.ite (.bv 4) (.or x13_47 x13_97) (.and x13_51 x13_97)) (.lit (.ofNat 2)) (.lit (.ofNat 0))) (.ite (.ite (.bv 4) (.or x13_57 x13_103) (.and x13_61 x13_103)) (.lit (.ofNat 1)) (.lit (.ofNat 0))))))))])
def ss13 : List SV := [.agg [.ci .u8 (.iv 0), .ci .u8 (.iv 1)], .c (.ci .u8 (.iv 2)), .agg [.ci .u8 (.iv 3), .cb (.bv 4)]]
def ks13 : List LK := [.i .u8, .i .u8, .i .u8, .i .u8, .b]
theorem args13 : argTs Try.prog Try.f13.params.toList 0 = some (ss13, ks13) := by kernel_rfl
theorem tree13 : (tree Try.prog 12 (sumsIn sums9) 300 13 ss13 bare 0 ⟨ks13.map LK.rg, []⟩).small ⟨ks13.map LK.rg, []⟩ = some v13 := by kernel_rfl
def sums13 : List Sm := ⟨13, ss13, ks13, v13⟩ :: sums9
theorem sok13 : SumsOk Try.prog sums13 := sums_norm mixed sok9 args13 tree13 (by kernel_rfl)
def v15 : ST := .v (.agg [.ci .u8 (.bin .or .u8 (.ite (.cmp .gtr (.iv 2) (.lit (.ofNat 127))) (.lit (.ofNat 128)) (.lit (.ofNat 0))) (.bin .or .u8 (.ite (.cmp .neq (.bin .and .u64 (.iv 0) (.lit (.ofNat 64))) (.lit (.ofNat 0))) (.lit (.ofNat 64)) (.lit (.ofNat 0))) (.bin .or .u8 (.ite (.cmp .neq (.bin .and .u64 (.iv 0) (.lit (.ofNat 8))) (.lit (.ofNat 0))) (.lit (.ofNat 8)) (.lit (.ofNat 0))) (.bin .or .u8 (.ite (.cmp .neq (.bin .and .u64 (.iv 0) (.lit (.ofNat 4))) (.lit (.ofNat 0))) (.lit (.ofNat 4)) (.lit (.ofNat 0))) (.bin .or .u8 (.ite (.cmp .eql (.iv 2) (.lit (.ofNat 0))) (.lit (.ofNat 2)) (.lit (.ofNat 0))) (.ite (.cmp .neq (.bin .and .u64 (.iv 0) (.lit (.ofNat 1))) (.lit (.ofNat 0))) (.lit (.ofNat 1)) (.lit (.ofNat 0)))))))), .ci .u8 (.bin .or .u8 (.ite (.bv 3) (.lit (.ofNat 128)) (.lit (.ofNat 0))) (.bin .or .u8 (.ite (.cmp .neq (.bin .and .u64 (.iv 1) (.lit (.ofNat 64))) (.lit (.ofNat 0))) (.lit (.ofNat 64)) (.lit (.ofNat 0))) (.bin .or .u8 (.ite (.cmp .neq (.bin .and .u64 (.iv 1) (.lit (.ofNat 8))) (.lit (.ofNat 0))) (.lit (.ofNat 8)) (.lit (.ofNat 0))) (.bin .or .u8 (.ite (.cmp .neq (.bin .and .u64 (.iv 1) (.lit (.ofNat 4))) (.lit (.ofNat 0))) (.lit (.ofNat 4)) (.lit (.ofNat 0))) (.bin .or .u8 (.ite (.bv 3) (.lit (.ofNat 2)) (.lit (.ofNat 0))) (.ite (.cmp .neq (.bin .and .u64 (.iv 1) (.lit (.ofNat 1))) (.lit (.ofNat 0))) (.lit (.ofNat 1)) (.lit (.ofNat 0))))))))])
def ss15 : List SV := [.agg [.ci .u8 (.iv 0), .ci .u8 (.iv 1)], .agg [.ci .u8 (.iv 2), .cb (.bv 3)]]
def ks15 : List LK := [.i .u8, .i .u8, .i .u8, .b]
theorem args15 : argTs Try.prog Try.f15.params.toList 0 = some (ss15, ks15) := by kernel_rfl
theorem tree15 : tree Try.prog 12 (sumsIn sums13) 300 15 ss15 bare 0 ⟨ks15.map LK.rg, []⟩ = .leaf v15 := by kernel_rfl
def sums15 : List Sm := ⟨15, ss15, ks15, v15⟩ :: sums13
theorem sok15 : SumsOk Try.prog sums15 := sums_cons mixed sok13 args15 tree15 (by kernel_rfl)
def v54 : ST := .tup [.agg [.ci .u8 (.iv 2), .cb (.bv 3)], .agg [.ci .u8 (.bin .or .u8 (.ite (.cmp .gtr (.iv 2) (.lit (.ofNat 127))) (.lit (.ofNat 128)) (.lit (.ofNat 0))) (.bin .or .u8 (.ite (.cmp .neq (.bin .and .u64 (.iv 0) (.lit (.ofNat 64))) (.lit (.ofNat 0))) (.lit (.ofNat 64)) (.lit (.ofNat 0))) (.bin .or .u8 (.ite (.cmp .neq (.bin .and .u64 (.iv 0) (.lit (.ofNat 8))) (.lit (.ofNat 0))) (.lit (.ofNat 8)) (.lit (.ofNat 0))) (.bin .or .u8 (.ite (.cmp .neq (.bin .and .u64 (.iv 0) (.lit (.ofNat 4))) (.lit (.ofNat 0))) (.lit (.ofNat 4)) (.lit (.ofNat 0))) (.bin .or .u8 (.ite (.cmp .eql (.iv 2) (.lit (.ofNat 0))) (.lit (.ofNat 2)) (.lit (.ofNat 0))) (.ite (.cmp .neq (.iv 4) (.lit (.ofNat 0))) (.lit (.ofNat 1)) (.lit (.ofNat 0)))))))), .ci .u8 (.bin .or .u8 (.ite (.bv 3) (.lit (.ofNat 128)) (.lit (.ofNat 0))) (.bin .or .u8 (.ite (.cmp .neq (.bin .and .u64 (.iv 1) (.lit (.ofNat 64))) (.lit (.ofNat 0))) (.lit (.ofNat 64)) (.lit (.ofNat 0))) (.bin .or .u8 (.ite (.cmp .neq (.bin .and .u64 (.iv 1) (.lit (.ofNat 8))) (.lit (.ofNat 0))) (.lit (.ofNat 8)) (.lit (.ofNat 0))) (.bin .or .u8 (.ite (.cmp .neq (.bin .and .u64 (.iv 1) (.lit (.ofNat 4))) (.lit (.ofNat 0))) (.lit (.ofNat 4)) (.lit (.ofNat 0))) (.bin .or .u8 (.ite (.bv 3) (.lit (.ofNat 2)) (.lit (.ofNat 0))) (.ite (.bv 5) (.lit (.ofNat 1)) (.lit (.ofNat 0))))))))]]
def ss54 : List SV := [.agg [.ci .u8 (.iv 0), .ci .u8 (.iv 1)], .agg [.ci .u8 (.iv 2), .cb (.bv 3)], .agg [.ci .u8 (.iv 4), .cb (.bv 5)]]
def ks54 : List LK := [.i .u8, .i .u8, .i .u8, .b, .i .u8, .b]
theorem args54 : argTs Try.prog Try.f54.params.toList 0 = some (ss54, ks54) := by kernel_rfl
theorem tree54 : tree Try.prog 12 (sumsIn sums15) 300 54 ss54 bare 0 ⟨ks54.map LK.rg, []⟩ = .leaf v54 := by kernel_rfl
def sums54 : List Sm := ⟨54, ss54, ks54, v54⟩ :: sums15
theorem sok54 : SumsOk Try.prog sums54 := sums_cons mixed sok15 args54 tree54 (by kernel_rfl)
def x33_2 : X := .bin .shl .u8 (.iv 2) (.lit (.ofNat 1))
def v33 : ST := .tup [.agg [.ci .u8 x33_2, .cb (.bv 3)], .agg [.ci .u8 (.bin .or .u8 (.ite (.cmp .gtr x33_2 (.lit (.ofNat 127))) (.lit (.ofNat 128)) (.lit (.ofNat 0))) (.bin .or .u8 (.ite (.cmp .neq (.bin .and .u64 (.iv 0) (.lit (.ofNat 64))) (.lit (.ofNat 0))) (.lit (.ofNat 64)) (.lit (.ofNat 0))) (.bin .or .u8 (.ite (.cmp .neq (.bin .and .u64 (.iv 0) (.lit (.ofNat 8))) (.lit (.ofNat 0))) (.lit (.ofNat 8)) (.lit (.ofNat 0))) (.bin .or .u8 (.ite (.cmp .neq (.bin .and .u64 (.iv 0) (.lit (.ofNat 4))) (.lit (.ofNat 0))) (.lit (.ofNat 4)) (.lit (.ofNat 0))) (.bin .or .u8 (.ite (.cmp .eql x33_2 (.lit (.ofNat 0))) (.lit (.ofNat 2)) (.lit (.ofNat 0))) (.ite (.cmp .neq (.bin .and .u64 (.iv 2) (.lit (.ofNat 128))) (.lit (.ofNat 0))) (.lit (.ofNat 1)) (.lit (.ofNat 0)))))))), .ci .u8 (.bin .or .u8 (.ite (.bv 3) (.lit (.ofNat 128)) (.lit (.ofNat 0))) (.bin .or .u8 (.ite (.cmp .neq (.bin .and .u64 (.iv 1) (.lit (.ofNat 64))) (.lit (.ofNat 0))) (.lit (.ofNat 64)) (.lit (.ofNat 0))) (.bin .or .u8 (.ite (.cmp .neq (.bin .and .u64 (.iv 1) (.lit (.ofNat 8))) (.lit (.ofNat 0))) (.lit (.ofNat 8)) (.lit (.ofNat 0))) (.bin .or .u8 (.ite (.cmp .neq (.bin .and .u64 (.iv 1) (.lit (.ofNat 4))) (.lit (.ofNat 0))) (.lit (.ofNat 4)) (.lit (.ofNat 0))) (.bin .or .u8 (.ite (.bv 3) (.lit (.ofNat 2)) (.lit (.ofNat 0))) (.ite (.bv 3) (.lit (.ofNat 1)) (.lit (.ofNat 0))))))))]]
def ss33 : List SV := [.agg [.ci .u8 (.iv 0), .ci .u8 (.iv 1)], .agg [.ci .u8 (.iv 2), .cb (.bv 3)]]
def ks33 : List LK := [.i .u8, .i .u8, .i .u8, .b]
theorem args33 : argTs Try.prog Try.f33.params.toList 0 = some (ss33, ks33) := by kernel_rfl
theorem tree33 : tree Try.prog 12 (sumsIn sums54) 300 33 ss33 bare 0 ⟨ks33.map LK.rg, []⟩ = .leaf v33 := by kernel_rfl
def sums33 : List Sm := ⟨33, ss33, ks33, v33⟩ :: sums54
theorem sok33 : SumsOk Try.prog sums33 := sums_cons mixed sok54 args33 tree33 (by kernel_rfl)
def x44_5 : X := .cmp .neq (.bin .and .u64 (.iv 1) (.lit (.ofNat 128))) (.lit (.ofNat 0))
def x44_8 : X := .cmp .neq (.bin .and .u64 (.iv 0) (.lit (.ofNat 128))) (.lit (.ofNat 0))
def x44_16 : X := .cmp .neq (.bin .and .u64 (.iv 1) (.lit (.ofNat 64))) (.lit (.ofNat 0))
def x44_18 : X := .cmp .neq (.bin .and .u64 (.iv 0) (.lit (.ofNat 64))) (.lit (.ofNat 0))
def x44_26 : X := .cmp .neq (.bin .and .u64 (.iv 1) (.lit (.ofNat 8))) (.lit (.ofNat 0))
def x44_28 : X := .cmp .neq (.bin .and .u64 (.iv 0) (.lit (.ofNat 8))) (.lit (.ofNat 0))
def x44_36 : X := .cmp .neq (.bin .and .u64 (.iv 1) (.lit (.ofNat 4))) (.lit (.ofNat 0))
def x44_38 : X := .cmp .neq (.bin .and .u64 (.iv 0) (.lit (.ofNat 4))) (.lit (.ofNat 0))
def x44_46 : X := .cmp .neq (.bin .and .u64 (.iv 1) (.lit (.ofNat 2))) (.lit (.ofNat 0))
def x44_48 : X := .cmp .neq (.bin .and .u64 (.iv 0) (.lit (.ofNat 2))) (.lit (.ofNat 0))
def x44_56 : X := .cmp .neq (.bin .and .u64 (.iv 1) (.lit (.ofNat 1))) (.lit (.ofNat 0))
def x44_58 : X := .cmp .neq (.bin .and .u64 (.iv 0) (.lit (.ofNat 1))) (.lit (.ofNat 0))
def v44 : ST := .v (.c (.ci .u8 (.bin .or .u8 (.ite (.ite (.bv 2) (.or x44_5 x44_8) (.and (.not x44_5) x44_8)) (.lit (.ofNat 128)) (.lit (.ofNat 0))) (.bin .or .u8 (.ite (.ite (.bv 2) (.or x44_16 x44_18) (.and (.not x44_16) x44_18)) (.lit (.ofNat 64)) (.lit (.ofNat 0))) (.bin .or .u8 (.ite (.ite (.bv 2) (.or x44_26 x44_28) (.and (.not x44_26) x44_28)) (.lit (.ofNat 8)) (.lit (.ofNat 0))) (.bin .or .u8 (.ite (.ite (.bv 2) (.or x44_36 x44_38) (.and (.not x44_36) x44_38)) (.lit (.ofNat 4)) (.lit (.ofNat 0))) (.bin .or .u8 (.ite (.ite (.bv 2) (.or x44_46 x44_48) (.and (.not x44_46) x44_48)) (.lit (.ofNat 2)) (.lit (.ofNat 0))) (.ite (.ite (.bv 2) (.or x44_56 x44_58) (.and (.not x44_56) x44_58)) (.lit (.ofNat 1)) (.lit (.ofNat 0))))))))))
def ss44 : List SV := [.c (.ci .u8 (.iv 0)), .c (.ci .u8 (.iv 1)), .c (.cb (.bv 2))]
def ks44 : List LK := [.i .u8, .i .u8, .b]
theorem args44 : argTs Try.prog Try.f44.params.toList 0 = some (ss44, ks44) := by kernel_rfl
theorem tree44 : (tree Try.prog 12 (sumsIn sums33) 300 44 ss44 bare 0 ⟨ks44.map LK.rg, []⟩).small ⟨ks44.map LK.rg, []⟩ = some v44 := by kernel_rfl
def sums44 : List Sm := ⟨44, ss44, ks44, v44⟩ :: sums33
theorem sok44 : SumsOk Try.prog sums44 := sums_norm mixed sok33 args44 tree44 (by kernel_rfl)
def x46_5 : X := .cmp .neq (.bin .and .u64 (.iv 2) (.lit (.ofNat 128))) (.lit (.ofNat 0))
def x46_8 : X := .cmp .neq (.bin .and .u64 (.iv 0) (.lit (.ofNat 128))) (.lit (.ofNat 0))
def x46_10 : X := .not x46_5
def x46_16 : X := .cmp .neq (.bin .and .u64 (.iv 2) (.lit (.ofNat 64))) (.lit (.ofNat 0))
def x46_18 : X := .cmp .neq (.bin .and .u64 (.iv 0) (.lit (.ofNat 64))) (.lit (.ofNat 0))
def x46_20 : X := .not x46_16
def x46_26 : X := .cmp .neq (.bin .and .u64 (.iv 2) (.lit (.ofNat 8))) (.lit (.ofNat 0))
def x46_28 : X := .cmp .neq (.bin .and .u64 (.iv 0) (.lit (.ofNat 8))) (.lit (.ofNat 0))
def x46_30 : X := .not x46_26
def x46_36 : X := .cmp .neq (.bin .and .u64 (.iv 2) (.lit (.ofNat 4))) (.lit (.ofNat 0))
def x46_38 : X := .cmp .neq (.bin .and .u64 (.iv 0) (.lit (.ofNat 4))) (.lit (.ofNat 0))
def x46_40 : X := .not x46_36
def x46_46 : X := .cmp .neq (.bin .and .u64 (.iv 2) (.lit (.ofNat 2))) (.lit (.ofNat 0))
def x46_48 : X := .cmp .neq (.bin .and .u64 (.iv 0) (.lit (.ofNat 2))) (.lit (.ofNat 0))
def x46_50 : X := .not x46_46
def x46_56 : X := .cmp .neq (.bin .and .u64 (.iv 2) (.lit (.ofNat 1))) (.lit (.ofNat 0))
def x46_58 : X := .cmp .neq (.bin .and .u64 (.iv 0) (.lit (.ofNat 1))) (.lit (.ofNat 0))
def x46_60 : X := .not x46_56
def x46_72 : X := .cmp .neq (.bin .and .u64 (.iv 1) (.lit (.ofNat 128))) (.lit (.ofNat 0))
def x46_78 : X := .cmp .neq (.bin .and .u64 (.iv 1) (.lit (.ofNat 64))) (.lit (.ofNat 0))
def x46_84 : X := .cmp .neq (.bin .and .u64 (.iv 1) (.lit (.ofNat 8))) (.lit (.ofNat 0))
def x46_90 : X := .cmp .neq (.bin .and .u64 (.iv 1) (.lit (.ofNat 4))) (.lit (.ofNat 0))
def x46_96 : X := .cmp .neq (.bin .and .u64 (.iv 1) (.lit (.ofNat 2))) (.lit (.ofNat 0))
def x46_102 : X := .cmp .neq (.bin .and .u64 (.iv 1) (.lit (.ofNat 1))) (.lit (.ofNat 0))
def v46 : ST := .v (.agg [.ci .u8 (.bin .or .u8 (.ite (.ite (.bv 3) (.or x46_5 x46_8) (.and x46_10 x46_8)) (.lit (.ofNat 128)) (.lit (.ofNat 0))) (.bin .or .u8 (.ite (.ite (.bv 3) (.or x46_16 x46_18) (.and x46_20 x46_18)) (.lit (.ofNat 64)) (.lit (.ofNat 0))) (.bin .or .u8 (.ite (.ite (.bv 3) (.or x46_26 x46_28) (.and x46_30 x46_28)) (.lit (.ofNat 8)) (.lit (.ofNat 0))) (.bin .or .u8 (.ite (.ite (.bv 3) (.or x46_36 x46_38) (.and x46_40 x46_38)) (.lit (.ofNat 4)) (.lit (.ofNat 0))) (.bin .or .u8 (.ite (.ite (.bv 3) (.or x46_46 x46_48) (.and x46_50 x46_48)) (.lit (.ofNat 2)) (.lit (.ofNat 0))) (.ite (.ite (.bv 3) (.or x46_56 x46_58) (.and x46_60 x46_58)) (.lit (.ofNat 1)) (.lit (.ofNat 0)))))))), .ci .u8 (.bin .or .u8 (.ite (.ite (.bv 4) (.or x46_5 x46_72) (.and x46_10 x46_72)) (.lit (.ofNat 128)) (.lit (.ofNat 0))) (.bin .or .u8 (.ite (.ite (.bv 4) (.or x46_16 x46_78) (.and x46_20 x46_78)) (.lit (.ofNat 64)) (.lit (.ofNat 0))) (.bin .or .u8 (.ite (.ite (.bv 4) (.or x46_26 x46_84) (.and x46_30 x46_84)) (.lit (.ofNat 8)) (.lit (.ofNat 0))) (.bin .or .u8 (.ite (.ite (.bv 4) (.or x46_36 x46_90) (.and x46_40 x46_90)) (.lit (.ofNat 4)) (.lit (.ofNat 0))) (.bin .or .u8 (.ite (.ite (.bv 4) (.or x46_46 x46_96) (.and x46_50 x46_96)) (.lit (.ofNat 2)) (.lit (.ofNat 0))) (.ite (.ite (.bv 4) (.or x46_56 x46_102) (.and x46_60 x46_102)) (.lit (.ofNat 1)) (.lit (.ofNat 0))))))))])
def ss46 : List SV := [.agg [.ci .u8 (.iv 0), .ci .u8 (.iv 1)], .c (.ci .u8 (.iv 2)), .c (.cb (.bv 3)), .c (.cb (.bv 4))]
def ks46 : List LK := [.i .u8, .i .u8, .i .u8, .b, .b]
theorem args46 : argTs Try.prog Try.f46.params.toList 0 = some (ss46, ks46) := by kernel_rfl
theorem tree46 : tree Try.prog 12 (sumsIn sums44) 300 46 ss46 bare 0 ⟨ks46.map LK.rg, []⟩ = .leaf v46 := by kernel_rfl
def sums46 : List Sm := ⟨46, ss46, ks46, v46⟩ :: sums44
theorem sok46 : SumsOk Try.prog sums46 := sums_cons mixed sok44 args46 tree46 (by kernel_rfl)
def v16 : ST := .v (.agg [.ci .u8 (.bin .or .u8 (.ite (.cmp .geq (.iv 2) (.lit (.ofNat 128))) (.lit (.ofNat 128)) (.lit (.ofNat 0))) (.bin .or .u8 (.ite (.cmp .neq (.bin .and .u64 (.iv 0) (.lit (.ofNat 64))) (.lit (.ofNat 0))) (.lit (.ofNat 64)) (.lit (.ofNat 0))) (.bin .or .u8 (.ite (.cmp .neq (.bin .and .u64 (.iv 0) (.lit (.ofNat 8))) (.lit (.ofNat 0))) (.lit (.ofNat 8)) (.lit (.ofNat 0))) (.bin .or .u8 (.ite (.cmp .neq (.bin .and .u64 (.iv 0) (.lit (.ofNat 4))) (.lit (.ofNat 0))) (.lit (.ofNat 4)) (.lit (.ofNat 0))) (.bin .or .u8 (.ite (.cmp .eql (.iv 2) (.lit (.ofNat 0))) (.lit (.ofNat 2)) (.lit (.ofNat 0))) (.ite (.cmp .neq (.bin .and .u64 (.iv 0) (.lit (.ofNat 1))) (.lit (.ofNat 0))) (.lit (.ofNat 1)) (.lit (.ofNat 0)))))))), .ci .u8 (.bin .or .u8 (.ite (.bv 3) (.lit (.ofNat 128)) (.lit (.ofNat 0))) (.bin .or .u8 (.ite (.cmp .neq (.bin .and .u64 (.iv 1) (.lit (.ofNat 64))) (.lit (.ofNat 0))) (.lit (.ofNat 64)) (.lit (.ofNat 0))) (.bin .or .u8 (.ite (.cmp .neq (.bin .and .u64 (.iv 1) (.lit (.ofNat 8))) (.lit (.ofNat 0))) (.lit (.ofNat 8)) (.lit (.ofNat 0))) (.bin .or .u8 (.ite (.cmp .neq (.bin .and .u64 (.iv 1) (.lit (.ofNat 4))) (.lit (.ofNat 0))) (.lit (.ofNat 4)) (.lit (.ofNat 0))) (.bin .or .u8 (.ite (.bv 3) (.lit (.ofNat 2)) (.lit (.ofNat 0))) (.ite (.cmp .neq (.bin .and .u64 (.iv 1) (.lit (.ofNat 1))) (.lit (.ofNat 0))) (.lit (.ofNat 1)) (.lit (.ofNat 0))))))))])
def ss16 : List SV := [.agg [.ci .u8 (.iv 0), .ci .u8 (.iv 1)], .agg [.ci .u8 (.iv 2), .cb (.bv 3)]]
def ks16 : List LK := [.i .u8, .i .u8, .i .u8, .b]
theorem args16 : argTs Try.prog Try.f16.params.toList 0 = some (ss16, ks16) := by kernel_rfl
theorem tree16 : tree Try.prog 12 (sumsIn sums46) 300 16 ss16 bare 0 ⟨ks16.map LK.rg, []⟩ = .leaf v16 := by kernel_rfl
def sums16 : List Sm := ⟨16, ss16, ks16, v16⟩ :: sums46
theorem sok16 : SumsOk Try.prog sums16 := sums_cons mixed sok46 args16 tree16 (by kernel_rfl)
def x34_6 : X := .bin .rem .i64 (.bin .add .i64 (.bin .mul .i64 (.lit (.ofNat 2)) (.iv 2)) (.iv 4)) (.lit (.ofNat 256))
def x34_9 : X := .or (.bv 3) (.bv 5)
def v34 : ST := .tup [.agg [.ci .u8 x34_6, .cb x34_9], .agg [.ci .u8 (.bin .or .u8 (.ite (.cmp .geq x34_6 (.lit (.ofNat 128))) (.lit (.ofNat 128)) (.lit (.ofNat 0))) (.bin .or .u8 (.ite (.cmp .neq (.bin .and .u64 (.iv 0) (.lit (.ofNat 64))) (.lit (.ofNat 0))) (.lit (.ofNat 64)) (.lit (.ofNat 0))) (.bin .or .u8 (.ite (.cmp .neq (.bin .and .u64 (.iv 0) (.lit (.ofNat 8))) (.lit (.ofNat 0))) (.lit (.ofNat 8)) (.lit (.ofNat 0))) (.bin .or .u8 (.ite (.cmp .neq (.bin .and .u64 (.iv 0) (.lit (.ofNat 4))) (.lit (.ofNat 0))) (.lit (.ofNat 4)) (.lit (.ofNat 0))) (.bin .or .u8 (.ite (.cmp .eql x34_6 (.lit (.ofNat 0))) (.lit (.ofNat 2)) (.lit (.ofNat 0))) (.ite (.cmp .geq (.iv 2) (.lit (.ofNat 128))) (.lit (.ofNat 1)) (.lit (.ofNat 0)))))))), .ci .u8 (.bin .or .u8 (.ite x34_9 (.lit (.ofNat 128)) (.lit (.ofNat 0))) (.bin .or .u8 (.ite (.cmp .neq (.bin .and .u64 (.iv 1) (.lit (.ofNat 64))) (.lit (.ofNat 0))) (.lit (.ofNat 64)) (.lit (.ofNat 0))) (.bin .or .u8 (.ite (.cmp .neq (.bin .and .u64 (.iv 1) (.lit (.ofNat 8))) (.lit (.ofNat 0))) (.lit (.ofNat 8)) (.lit (.ofNat 0))) (.bin .or .u8 (.ite (.cmp .neq (.bin .and .u64 (.iv 1) (.lit (.ofNat 4))) (.lit (.ofNat 0))) (.lit (.ofNat 4)) (.lit (.ofNat 0))) (.bin .or .u8 (.ite x34_9 (.lit (.ofNat 2)) (.lit (.ofNat 0))) (.ite (.bv 3) (.lit (.ofNat 1)) (.lit (.ofNat 0))))))))]]
def ss34 : List SV := [.agg [.ci .u8 (.iv 0), .ci .u8 (.iv 1)], .agg [.ci .u8 (.iv 2), .cb (.bv 3)], .agg [.ci .u8 (.iv 4), .cb (.bv 5)]]
def ks34 : List LK := [.i .u8, .i .u8, .i .u8, .b, .i .u8, .b]
theorem args34 : argTs Try.prog Try.f34.params.toList 0 = some (ss34, ks34) := by kernel_rfl
theorem tree34 : tree Try.prog 12 (sumsIn sums16) 300 34 ss34 bare 0 ⟨ks34.map LK.rg, []⟩ = .leaf v34 := by kernel_rfl
def sums34 : List Sm := ⟨34, ss34, ks34, v34⟩ :: sums16
theorem sok34 : SumsOk Try.prog sums34 := sums_cons mixed sok16 args34 tree34 (by kernel_rfl)
def x35_2 : X := .bin .shr .u8 (.iv 2) (.lit (.ofNat 1))
def v35 : ST := .tup [.agg [.ci .u8 x35_2, .cb (.bv 3)], .agg [.ci .u8 (.bin .or .u8 (.lit (.ofNat 0)) (.bin .or .u8 (.ite (.cmp .neq (.bin .and .u64 (.iv 0) (.lit (.ofNat 64))) (.lit (.ofNat 0))) (.lit (.ofNat 64)) (.lit (.ofNat 0))) (.bin .or .u8 (.ite (.cmp .neq (.bin .and .u64 (.iv 0) (.lit (.ofNat 8))) (.lit (.ofNat 0))) (.lit (.ofNat 8)) (.lit (.ofNat 0))) (.bin .or .u8 (.ite (.cmp .neq (.bin .and .u64 (.iv 0) (.lit (.ofNat 4))) (.lit (.ofNat 0))) (.lit (.ofNat 4)) (.lit (.ofNat 0))) (.bin .or .u8 (.ite (.cmp .eql x35_2 (.lit (.ofNat 0))) (.lit (.ofNat 2)) (.lit (.ofNat 0))) (.ite (.cmp .neq (.bin .and .u64 (.iv 2) (.lit (.ofNat 1))) (.lit (.ofNat 0))) (.lit (.ofNat 1)) (.lit (.ofNat 0)))))))), .ci .u8 (.bin .or .u8 (.ite (.bv 3) (.lit (.ofNat 128)) (.lit (.ofNat 0))) (.bin .or .u8 (.ite (.cmp .neq (.bin .and .u64 (.iv 1) (.lit (.ofNat 64))) (.lit (.ofNat 0))) (.lit (.ofNat 64)) (.lit (.ofNat 0))) (.bin .or .u8 (.ite (.cmp .neq (.bin .and .u64 (.iv 1) (.lit (.ofNat 8))) (.lit (.ofNat 0))) (.lit (.ofNat 8)) (.lit (.ofNat 0))) (.bin .or .u8 (.ite (.cmp .neq (.bin .and .u64 (.iv 1) (.lit (.ofNat 4))) (.lit (.ofNat 0))) (.lit (.ofNat 4)) (.lit (.ofNat 0))) (.bin .or .u8 (.ite (.bv 3) (.lit (.ofNat 2)) (.lit (.ofNat 0))) (.ite (.bv 3) (.lit (.ofNat 1)) (.lit (.ofNat 0))))))))]]
def ss35 : List SV := [.agg [.ci .u8 (.iv 0), .ci .u8 (.iv 1)], .agg [.ci .u8 (.iv 2), .cb (.bv 3)]]
def ks35 : List LK := [.i .u8, .i .u8, .i .u8, .b]
theorem args35 : argTs Try.prog Try.f35.params.toList 0 = some (ss35, ks35) := by kernel_rfl
theorem tree35 : tree Try.prog 12 (sumsIn sums34) 300 35 ss35 bare 0 ⟨ks35.map LK.rg, []⟩ = .leaf v35 := by kernel_rfl
def sums35 : List Sm := ⟨35, ss35, ks35, v35⟩ :: sums34
theorem sok35 : SumsOk Try.prog sums35 := sums_cons mixed sok34 args35 tree35 (by kernel_rfl)
def x36_7 : X := .wrap .u8 (.bin .add .i64 (.bin .quo .i64 (.iv 2) (.lit (.ofNat 2))) (.bin .mul .i64 (.lit (.ofNat 128)) (.iv 4)))
def x36_10 : X := .or (.bv 3) (.bv 5)
def v36 : ST := .tup [.agg [.ci .u8 x36_7, .cb x36_10], .agg [.ci .u8 (.bin .or .u8 (.ite (.cmp .geq x36_7 (.lit (.ofNat 128))) (.lit (.ofNat 128)) (.lit (.ofNat 0))) (.bin .or .u8 (.ite (.cmp .neq (.bin .and .u64 (.iv 0) (.lit (.ofNat 64))) (.lit (.ofNat 0))) (.lit (.ofNat 64)) (.lit (.ofNat 0))) (.bin .or .u8 (.ite (.cmp .neq (.bin .and .u64 (.iv 0) (.lit (.ofNat 8))) (.lit (.ofNat 0))) (.lit (.ofNat 8)) (.lit (.ofNat 0))) (.bin .or .u8 (.ite (.cmp .neq (.bin .and .u64 (.iv 0) (.lit (.ofNat 4))) (.lit (.ofNat 0))) (.lit (.ofNat 4)) (.lit (.ofNat 0))) (.bin .or .u8 (.ite (.cmp .eql x36_7 (.lit (.ofNat 0))) (.lit (.ofNat 2)) (.lit (.ofNat 0))) (.ite (.cmp .eql (.bin .rem .u8 (.iv 2) (.lit (.ofNat 2))) (.lit (.ofNat 1))) (.lit (.ofNat 1)) (.lit (.ofNat 0)))))))), .ci .u8 (.bin .or .u8 (.ite x36_10 (.lit (.ofNat 128)) (.lit (.ofNat 0))) (.bin .or .u8 (.ite (.cmp .neq (.bin .and .u64 (.iv 1) (.lit (.ofNat 64))) (.lit (.ofNat 0))) (.lit (.ofNat 64)) (.lit (.ofNat 0))) (.bin .or .u8 (.ite (.cmp .neq (.bin .and .u64 (.iv 1) (.lit (.ofNat 8))) (.lit (.ofNat 0))) (.lit (.ofNat 8)) (.lit (.ofNat 0))) (.bin .or .u8 (.ite (.cmp .neq (.bin .and .u64 (.iv 1) (.lit (.ofNat 4))) (.lit (.ofNat 0))) (.lit (.ofNat 4)) (.lit (.ofNat 0))) (.bin .or .u8 (.ite x36_10 (.lit (.ofNat 2)) (.lit (.ofNat 0))) (.ite (.bv 3) (.lit (.ofNat 1)) (.lit (.ofNat 0))))))))]]
def ss36 : List SV := [.agg [.ci .u8 (.iv 0), .ci .u8 (.iv 1)], .agg [.ci .u8 (.iv 2), .cb (.bv 3)], .agg [.ci .u8 (.iv 4), .cb (.bv 5)]]
def ks36 : List LK := [.i .u8, .i .u8, .i .u8, .b, .i .u8, .b]
theorem args36 : argTs Try.prog Try.f36.params.toList 0 = some (ss36, ks36) := by kernel_rfl
theorem tree36 : tree Try.prog 12 (sumsIn sums35) 300 36 ss36 bare 0 ⟨ks36.map LK.rg, []⟩ = .leaf v36 := by kernel_rfl
def sums36 : List Sm := ⟨36, ss36, ks36, v36⟩ :: sums35
theorem sok36 : SumsOk Try.prog sums36 := sums_cons mixed sok35 args36 tree36 (by kernel_rfl)
def x11_4 : X := .cmp .neq (.bin .and .u64 (.iv 2) (.lit (.ofNat 128))) (.lit (.ofNat 0))
def x11_12 : X := .cmp .neq (.bin .and .u64 (.iv 2) (.lit (.ofNat 64))) (.lit (.ofNat 0))
def x11_19 : X := .cmp .neq (.bin .and .u64 (.iv 2) (.lit (.ofNat 8))) (.lit (.ofNat 0))
def x11_26 : X := .cmp .neq (.bin .and .u64 (.iv 2) (.lit (.ofNat 4))) (.lit (.ofNat 0))
def x11_33 : X := .cmp .neq (.bin .and .u64 (.iv 2) (.lit (.ofNat 2))) (.lit (.ofNat 0))
def x11_40 : X := .cmp .neq (.bin .and .u64 (.iv 2) (.lit (.ofNat 1))) (.lit (.ofNat 0))
def v11 : ST := .v (.agg [.ci .u8 (.ite (.cmp .gtr (.bin .or .u8 (.ite (.and x11_4 (.cmp .neq (.bin .and .u64 (.iv 0) (.lit (.ofNat 128))) (.lit (.ofNat 0)))) (.lit (.ofNat 128)) (.lit (.ofNat 0))) (.bin .or .u8 (.ite (.and x11_12 (.cmp .neq (.bin .and .u64 (.iv 0) (.lit (.ofNat 64))) (.lit (.ofNat 0)))) (.lit (.ofNat 64)) (.lit (.ofNat 0))) (.bin .or .u8 (.ite (.and x11_19 (.cmp .neq (.bin .and .u64 (.iv 0) (.lit (.ofNat 8))) (.lit (.ofNat 0)))) (.lit (.ofNat 8)) (.lit (.ofNat 0))) (.bin .or .u8 (.ite (.and x11_26 (.cmp .neq (.bin .and .u64 (.iv 0) (.lit (.ofNat 4))) (.lit (.ofNat 0)))) (.lit (.ofNat 4)) (.lit (.ofNat 0))) (.bin .or .u8 (.ite (.and x11_33 (.cmp .neq (.bin .and .u64 (.iv 0) (.lit (.ofNat 2))) (.lit (.ofNat 0)))) (.lit (.ofNat 2)) (.lit (.ofNat 0))) (.ite (.and x11_40 (.cmp .neq (.bin .and .u64 (.iv 0) (.lit (.ofNat 1))) (.lit (.ofNat 0)))) (.lit (.ofNat 1)) (.lit (.ofNat 0)))))))) (.lit (.ofNat 0))) (.lit (.ofNat 1)) (.lit (.ofNat 0))), .cb (.cmp .gtr (.bin .or .u8 (.ite (.and x11_4 (.cmp .neq (.bin .and .u64 (.iv 1) (.lit (.ofNat 128))) (.lit (.ofNat 0)))) (.lit (.ofNat 128)) (.lit (.ofNat 0))) (.bin .or .u8 (.ite (.and x11_12 (.cmp .neq (.bin .and .u64 (.iv 1) (.lit (.ofNat 64))) (.lit (.ofNat 0)))) (.lit (.ofNat 64)) (.lit (.ofNat 0))) (.bin .or .u8 (.ite (.and x11_19 (.cmp .neq (.bin .and .u64 (.iv 1) (.lit (.ofNat 8))) (.lit (.ofNat 0)))) (.lit (.ofNat 8)) (.lit (.ofNat 0))) (.bin .or .u8 (.ite (.and x11_26 (.cmp .neq (.bin .and .u64 (.iv 1) (.lit (.ofNat 4))) (.lit (.ofNat 0)))) (.lit (.ofNat 4)) (.lit (.ofNat 0))) (.bin .or .u8 (.ite (.and x11_33 (.cmp .neq (.bin .and .u64 (.iv 1) (.lit (.ofNat 2))) (.lit (.ofNat 0)))) (.lit (.ofNat 2)) (.lit (.ofNat 0))) (.ite (.and x11_40 (.cmp .neq (.bin .and .u64 (.iv 1) (.lit (.ofNat 1))) (.lit (.ofNat 0)))) (.lit (.ofNat 1)) (.lit (.ofNat 0)))))))) (.lit (.ofNat 0)))])
def ss11 : List SV := [.agg [.ci .u8 (.iv 0), .ci .u8 (.iv 1)], .c (.ci .u8 (.iv 2))]
def ks11 : List LK := [.i .u8, .i .u8, .i .u8]
theorem args11 : argTs Try.prog Try.f11.params.toList 0 = some (ss11, ks11) := by kernel_rfl
theorem tree11 : (tree Try.prog 12 (sumsIn sums36) 300 11 ss11 bare 0 ⟨ks11.map LK.rg, []⟩).small ⟨ks11.map LK.rg, []⟩ = some v11 := by kernel_rfl
def sums11 : List Sm := ⟨11, ss11, ks11, v11⟩ :: sums36
theorem sok11 : SumsOk Try.prog sums11 := sums_norm mixed sok36 args11 tree11 (by kernel_rfl)
def x31_15 : X := .bin .or .u8 (.bin .shl .u8 (.iv 2) (.lit (.ofNat 1))) (.ite (.cmp .gtr (.bin .or .u8 (.lit (.ofNat 0)) (.bin .or .u8 (.lit (.ofNat 0)) (.bin .or .u8 (.lit (.ofNat 0)) (.bin .or .u8 (.lit (.ofNat 0)) (.bin .or .u8 (.lit (.ofNat 0)) (.ite (.cmp .neq (.bin .and .u64 (.iv 0) (.lit (.ofNat 1))) (.lit (.ofNat 0))) (.lit (.ofNat 1)) (.lit (.ofNat 0)))))))) (.lit (.ofNat 0))) (.lit (.ofNat 1)) (.lit (.ofNat 0)))
def x31_29 : X := .or (.bv 3) (.and (.not (.bv 3)) (.cmp .gtr (.bin .or .u8 (.lit (.ofNat 0)) (.bin .or .u8 (.lit (.ofNat 0)) (.bin .or .u8 (.lit (.ofNat 0)) (.bin .or .u8 (.lit (.ofNat 0)) (.bin .or .u8 (.lit (.ofNat 0)) (.ite (.cmp .neq (.bin .and .u64 (.iv 1) (.lit (.ofNat 1))) (.lit (.ofNat 0))) (.lit (.ofNat 1)) (.lit (.ofNat 0)))))))) (.lit (.ofNat 0))))
def v31 : ST := .tup [.agg [.ci .u8 x31_15, .cb x31_29], .agg [.ci .u8 (.bin .or .u8 (.ite (.cmp .gtr x31_15 (.lit (.ofNat 127))) (.lit (.ofNat 128)) (.lit (.ofNat 0))) (.bin .or .u8 (.ite (.cmp .neq (.bin .and .u64 (.iv 0) (.lit (.ofNat 64))) (.lit (.ofNat 0))) (.lit (.ofNat 64)) (.lit (.ofNat 0))) (.bin .or .u8 (.ite (.cmp .neq (.bin .and .u64 (.iv 0) (.lit (.ofNat 8))) (.lit (.ofNat 0))) (.lit (.ofNat 8)) (.lit (.ofNat 0))) (.bin .or .u8 (.ite (.cmp .neq (.bin .and .u64 (.iv 0) (.lit (.ofNat 4))) (.lit (.ofNat 0))) (.lit (.ofNat 4)) (.lit (.ofNat 0))) (.bin .or .u8 (.ite (.cmp .eql x31_15 (.lit (.ofNat 0))) (.lit (.ofNat 2)) (.lit (.ofNat 0))) (.ite (.cmp .neq (.bin .and .u64 (.iv 2) (.lit (.ofNat 128))) (.lit (.ofNat 0))) (.lit (.ofNat 1)) (.lit (.ofNat 0)))))))), .ci .u8 (.bin .or .u8 (.ite x31_29 (.lit (.ofNat 128)) (.lit (.ofNat 0))) (.bin .or .u8 (.ite (.cmp .neq (.bin .and .u64 (.iv 1) (.lit (.ofNat 64))) (.lit (.ofNat 0))) (.lit (.ofNat 64)) (.lit (.ofNat 0))) (.bin .or .u8 (.ite (.cmp .neq (.bin .and .u64 (.iv 1) (.lit (.ofNat 8))) (.lit (.ofNat 0))) (.lit (.ofNat 8)) (.lit (.ofNat 0))) (.bin .or .u8 (.ite (.cmp .neq (.bin .and .u64 (.iv 1) (.lit (.ofNat 4))) (.lit (.ofNat 0))) (.lit (.ofNat 4)) (.lit (.ofNat 0))) (.bin .or .u8 (.ite x31_29 (.lit (.ofNat 2)) (.lit (.ofNat 0))) (.ite (.bv 3) (.lit (.ofNat 1)) (.lit (.ofNat 0))))))))]]
def ss31 : List SV := [.agg [.ci .u8 (.iv 0), .ci .u8 (.iv 1)], .agg [.ci .u8 (.iv 2), .cb (.bv 3)]]
def ks31 : List LK := [.i .u8, .i .u8, .i .u8, .b]
theorem args31 : argTs Try.prog Try.f31.params.toList 0 = some (ss31, ks31) := by kernel_rfl
theorem tree31 : tree Try.prog 12 (sumsIn sums11) 300 31 ss31 bare 0 ⟨ks31.map LK.rg, []⟩ = .leaf v31 := by kernel_rfl
def sums31 : List Sm := ⟨31, ss31, ks31, v31⟩ :: sums11
theorem sok31 : SumsOk Try.prog sums31 := sums_cons mixed sok11 args31 tree31 (by kernel_rfl)
def x32_17 : X := .bin .or .u8 (.bin .shr .u8 (.iv 2) (.lit (.ofNat 1))) (.bin .shl .u8 (.ite (.cmp .gtr (.bin .or .u8 (.lit (.ofNat 0)) (.bin .or .u8 (.lit (.ofNat 0)) (.bin .or .u8 (.lit (.ofNat 0)) (.bin .or .u8 (.lit (.ofNat 0)) (.bin .or .u8 (.lit (.ofNat 0)) (.ite (.cmp .neq (.bin .and .u64 (.iv 0) (.lit (.ofNat 1))) (.lit (.ofNat 0))) (.lit (.ofNat 1)) (.lit (.ofNat 0)))))))) (.lit (.ofNat 0))) (.lit (.ofNat 1)) (.lit (.ofNat 0))) (.lit (.ofNat 7)))
def x32_31 : X := .or (.bv 3) (.and (.not (.bv 3)) (.cmp .gtr (.bin .or .u8 (.lit (.ofNat 0)) (.bin .or .u8 (.lit (.ofNat 0)) (.bin .or .u8 (.lit (.ofNat 0)) (.bin .or .u8 (.lit (.ofNat 0)) (.bin .or .u8 (.lit (.ofNat 0)) (.ite (.cmp .neq (.bin .and .u64 (.iv 1) (.lit (.ofNat 1))) (.lit (.ofNat 0))) (.lit (.ofNat 1)) (.lit (.ofNat 0)))))))) (.lit (.ofNat 0))))
def v32 : ST := .tup [.agg [.ci .u8 x32_17, .cb x32_31], .agg [.ci .u8 (.bin .or .u8 (.ite (.cmp .gtr x32_17 (.lit (.ofNat 127))) (.lit (.ofNat 128)) (.lit (.ofNat 0))) (.bin .or .u8 (.ite (.cmp .neq (.bin .and .u64 (.iv 0) (.lit (.ofNat 64))) (.lit (.ofNat 0))) (.lit (.ofNat 64)) (.lit (.ofNat 0))) (.bin .or .u8 (.ite (.cmp .neq (.bin .and .u64 (.iv 0) (.lit (.ofNat 8))) (.lit (.ofNat 0))) (.lit (.ofNat 8)) (.lit (.ofNat 0))) (.bin .or .u8 (.ite (.cmp .neq (.bin .and .u64 (.iv 0) (.lit (.ofNat 4))) (.lit (.ofNat 0))) (.lit (.ofNat 4)) (.lit (.ofNat 0))) (.bin .or .u8 (.ite (.cmp .eql x32_17 (.lit (.ofNat 0))) (.lit (.ofNat 2)) (.lit (.ofNat 0))) (.ite (.cmp .neq (.bin .and .u64 (.iv 2) (.lit (.ofNat 1))) (.lit (.ofNat 0))) (.lit (.ofNat 1)) (.lit (.ofNat 0)))))))), .ci .u8 (.bin .or .u8 (.ite x32_31 (.lit (.ofNat 128)) (.lit (.ofNat 0))) (.bin .or .u8 (.ite (.cmp .neq (.bin .and .u64 (.iv 1) (.lit (.ofNat 64))) (.lit (.ofNat 0))) (.lit (.ofNat 64)) (.lit (.ofNat 0))) (.bin .or .u8 (.ite (.cmp .neq (.bin .and .u64 (.iv 1) (.lit (.ofNat 8))) (.lit (.ofNat 0))) (.lit (.ofNat 8)) (.lit (.ofNat 0))) (.bin .or .u8 (.ite (.cmp .neq (.bin .and .u64 (.iv 1) (.lit (.ofNat 4))) (.lit (.ofNat 0))) (.lit (.ofNat 4)) (.lit (.ofNat 0))) (.bin .or .u8 (.ite x32_31 (.lit (.ofNat 2)) (.lit (.ofNat 0))) (.ite (.bv 3) (.lit (.ofNat 1)) (.lit (.ofNat 0))))))))]]
def ss32 : List SV := [.agg [.ci .u8 (.iv 0), .ci .u8 (.iv 1)], .agg [.ci .u8 (.iv 2), .cb (.bv 3)]]
def ks32 : List LK := [.i .u8, .i .u8, .i .u8, .b]
theorem args32 : argTs Try.prog Try.f32.params.toList 0 = some (ss32, ks32) := by kernel_rfl
theorem tree32 : tree Try.prog 12 (sumsIn sums31) 300 32 ss32 bare 0 ⟨ks32.map LK.rg, []⟩ = .leaf v32 := by kernel_rfl
def sums32 : List Sm := ⟨32, ss32, ks32, v32⟩ :: sums31
theorem sok32 : SumsOk Try.prog sums32 := sums_cons mixed sok31 args32 tree32 (by kernel_rfl)
def v51 : ST := .v (.agg [.ci .u8 (.bin .and .u8 (.iv 0) (.iv 2)), .cb (.or (.bv 1) (.and (.not (.bv 1)) (.bv 3)))])
def ss51 : List SV := [.agg [.ci .u8 (.iv 0), .cb (.bv 1)], .agg [.ci .u8 (.iv 2), .cb (.bv 3)]]
def ks51 : List LK := [.i .u8, .b, .i .u8, .b]
theorem args51 : argTs Try.prog Try.f51.params.toList 0 = some (ss51, ks51) := by kernel_rfl
theorem tree51 : tree Try.prog 12 (sumsIn sums32) 300 51 ss51 bare 0 ⟨ks51.map LK.rg, []⟩ = .leaf v51 := by kernel_rfl
def sums51 : List Sm := ⟨51, ss51, ks51, v51⟩ :: sums32
theorem sok51 : SumsOk Try.prog sums51 := sums_cons mixed sok32 args51 tree51 (by kernel_rfl)
def v49 : ST := .v (.agg [.ci .u8 (.bin .xor .u8 (.iv 0) (.iv 2)), .cb (.or (.bv 1) (.and (.not (.bv 1)) (.bv 3)))])
def ss49 : List SV := [.agg [.ci .u8 (.iv 0), .cb (.bv 1)], .agg [.ci .u8 (.iv 2), .cb (.bv 3)]]
def ks49 : List LK := [.i .u8, .b, .i .u8, .b]
theorem args49 : argTs Try.prog Try.f49.params.toList 0 = some (ss49, ks49) := by kernel_rfl
theorem tree49 : tree Try.prog 12 (sumsIn sums51) 300 49 ss49 bare 0 ⟨ks49.map LK.rg, []⟩ = .leaf v49 := by kernel_rfl
def sums49 : List Sm := ⟨49, ss49, ks49, v49⟩ :: sums51
theorem sok49 : SumsOk Try.prog sums49 := sums_cons mixed sok51 args49 tree49 (by kernel_rfl)
def x37_19 : X := .bin .or .u8 (.bin .shr .u8 (.bin .and .u8 (.iv 2) (.iv 4)) (.lit (.ofNat 1))) (.bin .shl .u8 (.ite (.cmp .gtr (.bin .or .u8 (.lit (.ofNat 0)) (.bin .or .u8 (.lit (.ofNat 0)) (.bin .or .u8 (.lit (.ofNat 0)) (.bin .or .u8 (.lit (.ofNat 0)) (.bin .or .u8 (.lit (.ofNat 0)) (.ite (.cmp .neq (.bin .and .u64 (.iv 0) (.lit (.ofNat 1))) (.lit (.ofNat 0))) (.lit (.ofNat 1)) (.lit (.ofNat 0)))))))) (.lit (.ofNat 0))) (.lit (.ofNat 1)) (.lit (.ofNat 0))) (.lit (.ofNat 7)))
def x37_24 : X := .or (.bv 3) (.and (.not (.bv 3)) (.bv 5))
def x37_37 : X := .or x37_24 (.and (.not x37_24) (.cmp .gtr (.bin .or .u8 (.lit (.ofNat 0)) (.bin .or .u8 (.lit (.ofNat 0)) (.bin .or .u8 (.lit (.ofNat 0)) (.bin .or .u8 (.lit (.ofNat 0)) (.bin .or .u8 (.lit (.ofNat 0)) (.ite (.cmp .neq (.bin .and .u64 (.iv 1) (.lit (.ofNat 1))) (.lit (.ofNat 0))) (.lit (.ofNat 1)) (.lit (.ofNat 0)))))))) (.lit (.ofNat 0))))
def v37 : ST := .tup [.agg [.ci .u8 x37_19, .cb x37_37], .agg [.ci .u8 (.bin .or .u8 (.ite (.cmp .gtr x37_19 (.lit (.ofNat 127))) (.lit (.ofNat 128)) (.lit (.ofNat 0))) (.bin .or .u8 (.ite (.cmp .neq (.bin .xor .u8 (.bin .and .u8 (.bin .shr .u8 x37_19 (.lit (.ofNat 6))) (.lit (.ofNat 1))) (.bin .and .u8 (.bin .shr .u8 x37_19 (.lit (.ofNat 5))) (.lit (.ofNat 1)))) (.lit (.ofNat 0))) (.lit (.ofNat 64)) (.lit (.ofNat 0))) (.bin .or .u8 (.ite (.cmp .neq (.bin .and .u64 (.iv 0) (.lit (.ofNat 8))) (.lit (.ofNat 0))) (.lit (.ofNat 8)) (.lit (.ofNat 0))) (.bin .or .u8 (.ite (.cmp .neq (.bin .and .u64 (.iv 0) (.lit (.ofNat 4))) (.lit (.ofNat 0))) (.lit (.ofNat 4)) (.lit (.ofNat 0))) (.bin .or .u8 (.ite (.cmp .eql x37_19 (.lit (.ofNat 0))) (.lit (.ofNat 2)) (.lit (.ofNat 0))) (.ite (.and (.cmp .neq (.bin .and .u64 (.iv 2) (.lit (.ofNat 128))) (.lit (.ofNat 0))) (.cmp .neq (.bin .and .u64 (.iv 4) (.lit (.ofNat 128))) (.lit (.ofNat 0)))) (.lit (.ofNat 1)) (.lit (.ofNat 0)))))))), .ci .u8 (.bin .or .u8 (.ite x37_37 (.lit (.ofNat 128)) (.lit (.ofNat 0))) (.bin .or .u8 (.ite (.or x37_37 (.and (.not x37_37) x37_37)) (.lit (.ofNat 64)) (.lit (.ofNat 0))) (.bin .or .u8 (.ite (.cmp .neq (.bin .and .u64 (.iv 1) (.lit (.ofNat 8))) (.lit (.ofNat 0))) (.lit (.ofNat 8)) (.lit (.ofNat 0))) (.bin .or .u8 (.ite (.cmp .neq (.bin .and .u64 (.iv 1) (.lit (.ofNat 4))) (.lit (.ofNat 0))) (.lit (.ofNat 4)) (.lit (.ofNat 0))) (.bin .or .u8 (.ite x37_37 (.lit (.ofNat 2)) (.lit (.ofNat 0))) (.ite x37_37 (.lit (.ofNat 1)) (.lit (.ofNat 0))))))))]]
def ss37 : List SV := [.agg [.ci .u8 (.iv 0), .ci .u8 (.iv 1)], .agg [.ci .u8 (.iv 2), .cb (.bv 3)], .agg [.ci .u8 (.iv 4), .cb (.bv 5)]]
def ks37 : List LK := [.i .u8, .i .u8, .i .u8, .b, .i .u8, .b]
theorem args37 : argTs Try.prog Try.f37.params.toList 0 = some (ss37, ks37) := by kernel_rfl
theorem tree37 : tree Try.prog 12 (sumsIn sums49) 300 37 ss37 bare 0 ⟨ks37.map LK.rg, []⟩ = .leaf v37 := by kernel_rfl
def sums37 : List Sm := ⟨37, ss37, ks37, v37⟩ :: sums49
theorem sok37 : SumsOk Try.prog sums37 := sums_cons mixed sok49 args37 tree37 (by kernel_rfl)
def x53_66 : X := .ite (.and (.cmp .eql (.bin .rem .i64 (.bin .shr .i64 (.iv 0) (.lit (.ofNat 0))) (.lit (.ofNat 2))) (.lit (.ofNat 1))) (.cmp .eql (.bin .rem .i64 (.bin .shr .i64 (.iv 2) (.lit (.ofNat 0))) (.lit (.ofNat 2))) (.lit (.ofNat 1)))) (.lit (.ofNat 1)) (.lit (.ofNat 0))
def x53_68 : X := .ite (.and (.cmp .eql (.bin .rem .i64 (.bin .shr .i64 (.iv 0) (.lit (.ofNat 1))) (.lit (.ofNat 2))) (.lit (.ofNat 1))) (.cmp .eql (.bin .rem .i64 (.bin .shr .i64 (.iv 2) (.lit (.ofNat 1))) (.lit (.ofNat 2))) (.lit (.ofNat 1)))) (.bin .add .i64 x53_66 (.lit (.ofNat 2))) x53_66
def x53_70 : X := .ite (.and (.cmp .eql (.bin .rem .i64 (.bin .shr .i64 (.iv 0) (.lit (.ofNat 2))) (.lit (.ofNat 2))) (.lit (.ofNat 1))) (.cmp .eql (.bin .rem .i64 (.bin .shr .i64 (.iv 2) (.lit (.ofNat 2))) (.lit (.ofNat 2))) (.lit (.ofNat 1)))) (.bin .add .i64 x53_68 (.lit (.ofNat 4))) x53_68
def x53_73 : X := .ite (.and (.cmp .eql (.bin .rem .i64 (.bin .shr .i64 (.iv 0) (.lit (.ofNat 3))) (.lit (.ofNat 2))) (.lit (.ofNat 1))) (.cmp .eql (.bin .rem .i64 (.bin .shr .i64 (.iv 2) (.lit (.ofNat 3))) (.lit (.ofNat 2))) (.lit (.ofNat 1)))) (.bin .add .i64 x53_70 (.lit (.ofNat 8))) x53_70
def x53_76 : X := .ite (.and (.cmp .eql (.bin .rem .i64 (.bin .shr .i64 (.iv 0) (.lit (.ofNat 4))) (.lit (.ofNat 2))) (.lit (.ofNat 1))) (.cmp .eql (.bin .rem .i64 (.bin .shr .i64 (.iv 2) (.lit (.ofNat 4))) (.lit (.ofNat 2))) (.lit (.ofNat 1)))) (.bin .add .i64 x53_73 (.lit (.ofNat 16))) x53_73
def x53_79 : X := .ite (.and (.cmp .eql (.bin .rem .i64 (.bin .shr .i64 (.iv 0) (.lit (.ofNat 5))) (.lit (.ofNat 2))) (.lit (.ofNat 1))) (.cmp .eql (.bin .rem .i64 (.bin .shr .i64 (.iv 2) (.lit (.ofNat 5))) (.lit (.ofNat 2))) (.lit (.ofNat 1)))) (.bin .add .i64 x53_76 (.lit (.ofNat 32))) x53_76
def x53_82 : X := .ite (.and (.cmp .eql (.bin .rem .i64 (.bin .shr .i64 (.iv 0) (.lit (.ofNat 6))) (.lit (.ofNat 2))) (.lit (.ofNat 1))) (.cmp .eql (.bin .rem .i64 (.bin .shr .i64 (.iv 2) (.lit (.ofNat 6))) (.lit (.ofNat 2))) (.lit (.ofNat 1)))) (.bin .add .i64 x53_79 (.lit (.ofNat 64))) x53_79
def v53 : ST := .v (.agg [.ci .u8 (.ite (.and (.cmp .eql (.bin .rem .i64 (.bin .shr .i64 (.iv 0) (.lit (.ofNat 7))) (.lit (.ofNat 2))) (.lit (.ofNat 1))) (.cmp .eql (.bin .rem .i64 (.bin .shr .i64 (.iv 2) (.lit (.ofNat 7))) (.lit (.ofNat 2))) (.lit (.ofNat 1)))) (.bin .add .i64 x53_82 (.lit (.ofNat 128))) x53_82), .cb (.or (.bv 1) (.bv 3))])
def ss53 : List SV := [.agg [.ci .u8 (.iv 0), .cb (.bv 1)], .agg [.ci .u8 (.iv 2), .cb (.bv 3)]]
def ks53 : List LK := [.i .u8, .b, .i .u8, .b]
theorem args53 : argTs Try.prog Try.f53.params.toList 0 = some (ss53, ks53) := by kernel_rfl
theorem tree53 : tree Try.prog 12 (sumsIn sums37) 300 53 ss53 bare 0 ⟨ks53.map LK.rg, []⟩ = .leaf v53 := by kernel_rfl
def sums53 : List Sm := ⟨53, ss53, ks53, v53⟩ :: sums37
theorem sok53 : SumsOk Try.prog sums53 := sums_cons mixed sok37 args53 tree53 (by kernel_rfl)
def x38_66 : X := .ite (.and (.cmp .eql (.bin .rem .i64 (.bin .shr .i64 (.iv 2) (.lit (.ofNat 0))) (.lit (.ofNat 2))) (.lit (.ofNat 1))) (.cmp .eql (.bin .rem .i64 (.bin .shr .i64 (.iv 4) (.lit (.ofNat 0))) (.lit (.ofNat 2))) (.lit (.ofNat 1)))) (.lit (.ofNat 1)) (.lit (.ofNat 0))
def x38_68 : X := .ite (.and (.cmp .eql (.bin .rem .i64 (.bin .shr .i64 (.iv 2) (.lit (.ofNat 1))) (.lit (.ofNat 2))) (.lit (.ofNat 1))) (.cmp .eql (.bin .rem .i64 (.bin .shr .i64 (.iv 4) (.lit (.ofNat 1))) (.lit (.ofNat 2))) (.lit (.ofNat 1)))) (.bin .add .i64 x38_66 (.lit (.ofNat 2))) x38_66
def x38_70 : X := .ite (.and (.cmp .eql (.bin .rem .i64 (.bin .shr .i64 (.iv 2) (.lit (.ofNat 2))) (.lit (.ofNat 2))) (.lit (.ofNat 1))) (.cmp .eql (.bin .rem .i64 (.bin .shr .i64 (.iv 4) (.lit (.ofNat 2))) (.lit (.ofNat 2))) (.lit (.ofNat 1)))) (.bin .add .i64 x38_68 (.lit (.ofNat 4))) x38_68
def x38_73 : X := .ite (.and (.cmp .eql (.bin .rem .i64 (.bin .shr .i64 (.iv 2) (.lit (.ofNat 3))) (.lit (.ofNat 2))) (.lit (.ofNat 1))) (.cmp .eql (.bin .rem .i64 (.bin .shr .i64 (.iv 4) (.lit (.ofNat 3))) (.lit (.ofNat 2))) (.lit (.ofNat 1)))) (.bin .add .i64 x38_70 (.lit (.ofNat 8))) x38_70
def x38_76 : X := .ite (.and (.cmp .eql (.bin .rem .i64 (.bin .shr .i64 (.iv 2) (.lit (.ofNat 4))) (.lit (.ofNat 2))) (.lit (.ofNat 1))) (.cmp .eql (.bin .rem .i64 (.bin .shr .i64 (.iv 4) (.lit (.ofNat 4))) (.lit (.ofNat 2))) (.lit (.ofNat 1)))) (.bin .add .i64 x38_73 (.lit (.ofNat 16))) x38_73
def x38_79 : X := .ite (.and (.cmp .eql (.bin .rem .i64 (.bin .shr .i64 (.iv 2) (.lit (.ofNat 5))) (.lit (.ofNat 2))) (.lit (.ofNat 1))) (.cmp .eql (.bin .rem .i64 (.bin .shr .i64 (.iv 4) (.lit (.ofNat 5))) (.lit (.ofNat 2))) (.lit (.ofNat 1)))) (.bin .add .i64 x38_76 (.lit (.ofNat 32))) x38_76
def x38_82 : X := .ite (.and (.cmp .eql (.bin .rem .i64 (.bin .shr .i64 (.iv 2) (.lit (.ofNat 6))) (.lit (.ofNat 2))) (.lit (.ofNat 1))) (.cmp .eql (.bin .rem .i64 (.bin .shr .i64 (.iv 4) (.lit (.ofNat 6))) (.lit (.ofNat 2))) (.lit (.ofNat 1)))) (.bin .add .i64 x38_79 (.lit (.ofNat 64))) x38_79
def x38_93 : X := .wrap .u8 (.bin .add .i64 (.bin .quo .i64 (.ite (.and (.cmp .eql (.bin .rem .i64 (.bin .shr .i64 (.iv 2) (.lit (.ofNat 7))) (.lit (.ofNat 2))) (.lit (.ofNat 1))) (.cmp .eql (.bin .rem .i64 (.bin .shr .i64 (.iv 4) (.lit (.ofNat 7))) (.lit (.ofNat 2))) (.lit (.ofNat 1)))) (.bin .add .i64 x38_82 (.lit (.ofNat 128))) x38_82) (.lit (.ofNat 2))) (.bin .mul .i64 (.lit (.ofNat 128)) (.ite (.cmp .neq (.bin .and .u64 (.iv 0) (.lit (.ofNat 1))) (.lit (.ofNat 0))) (.lit (.ofNat 1)) (.lit (.ofNat 0)))))
def x38_100 : X := .or (.or (.bv 3) (.bv 5)) (.cmp .neq (.bin .and .u64 (.iv 1) (.lit (.ofNat 1))) (.lit (.ofNat 0)))
def x38_104 : X := .bin .rem .u8 (.bin .quo .u8 x38_93 (.lit (.ofNat 64))) (.lit (.ofNat 2))
def v38 : ST := .tup [.agg [.ci .u8 x38_93, .cb x38_100], .agg [.ci .u8 (.bin .or .u8 (.ite (.cmp .geq x38_93 (.lit (.ofNat 128))) (.lit (.ofNat 128)) (.lit (.ofNat 0))) (.bin .or .u8 (.ite (.cmp .neq x38_104 (.bin .rem .u8 (.bin .quo .u8 x38_93 (.lit (.ofNat 32))) (.lit (.ofNat 2)))) (.lit (.ofNat 64)) (.lit (.ofNat 0))) (.bin .or .u8 (.ite (.cmp .neq (.bin .and .u64 (.iv 0) (.lit (.ofNat 8))) (.lit (.ofNat 0))) (.lit (.ofNat 8)) (.lit (.ofNat 0))) (.bin .or .u8 (.ite (.cmp .neq (.bin .and .u64 (.iv 0) (.lit (.ofNat 4))) (.lit (.ofNat 0))) (.lit (.ofNat 4)) (.lit (.ofNat 0))) (.bin .or .u8 (.ite (.cmp .eql x38_93 (.lit (.ofNat 0))) (.lit (.ofNat 2)) (.lit (.ofNat 0))) (.ite (.cmp .eql x38_104 (.lit (.ofNat 1))) (.lit (.ofNat 1)) (.lit (.ofNat 0)))))))), .ci .u8 (.bin .or .u8 (.ite x38_100 (.lit (.ofNat 128)) (.lit (.ofNat 0))) (.bin .or .u8 (.ite x38_100 (.lit (.ofNat 64)) (.lit (.ofNat 0))) (.bin .or .u8 (.ite (.cmp .neq (.bin .and .u64 (.iv 1) (.lit (.ofNat 8))) (.lit (.ofNat 0))) (.lit (.ofNat 8)) (.lit (.ofNat 0))) (.bin .or .u8 (.ite (.cmp .neq (.bin .and .u64 (.iv 1) (.lit (.ofNat 4))) (.lit (.ofNat 0))) (.lit (.ofNat 4)) (.lit (.ofNat 0))) (.bin .or .u8 (.ite x38_100 (.lit (.ofNat 2)) (.lit (.ofNat 0))) (.ite x38_100 (.lit (.ofNat 1)) (.lit (.ofNat 0))))))))]]
def ss38 : List SV := [.agg [.ci .u8 (.iv 0), .ci .u8 (.iv 1)], .agg [.ci .u8 (.iv 2), .cb (.bv 3)], .agg [.ci .u8 (.iv 4), .cb (.bv 5)]]
def ks38 : List LK := [.i .u8, .i .u8, .i .u8, .b, .i .u8, .b]
theorem args38 : argTs Try.prog Try.f38.params.toList 0 = some (ss38, ks38) := by kernel_rfl
theorem tree38 : tree Try.prog 12 (sumsIn sums53) 300 38 ss38 bare 0 ⟨ks38.map LK.rg, []⟩ = .leaf v38 := by kernel_rfl
def sums38 : List Sm := ⟨38, ss38, ks38, v38⟩ :: sums53
theorem sok38 : SumsOk Try.prog sums38 := sums_cons mixed sok53 args38 tree38 (by kernel_rfl)
def x22_16 : X := .bin .add .u64 (.bin .add .u64 (.iv 2) (.iv 4)) (.ite (.cmp .gtr (.bin .or .u8 (.lit (.ofNat 0)) (.bin .or .u8 (.lit (.ofNat 0)) (.bin .or .u8 (.lit (.ofNat 0)) (.bin .or .u8 (.lit (.ofNat 0)) (.bin .or .u8 (.lit (.ofNat 0)) (.ite (.cmp .neq (.bin .and .u64 (.iv 0) (.lit (.ofNat 1))) (.lit (.ofNat 0))) (.lit (.ofNat 1)) (.lit (.ofNat 0)))))))) (.lit (.ofNat 0))) (.lit (.ofNat 1)) (.lit (.ofNat 0)))
def x22_17 : X := .wrap .u8 x22_16
def x22_19 : X := .not (.bv 3)
def x22_36 : X := .or (.bv 3) (.or (.and x22_19 (.bv 5)) (.and x22_19 (.and (.not (.bv 5)) (.cmp .gtr (.bin .or .u8 (.lit (.ofNat 0)) (.bin .or .u8 (.lit (.ofNat 0)) (.bin .or .u8 (.lit (.ofNat 0)) (.bin .or .u8 (.lit (.ofNat 0)) (.bin .or .u8 (.lit (.ofNat 0)) (.ite (.cmp .neq (.bin .and .u64 (.iv 1) (.lit (.ofNat 1))) (.lit (.ofNat 0))) (.lit (.ofNat 1)) (.lit (.ofNat 0)))))))) (.lit (.ofNat 0))))))
def v22 : ST := .tup [.agg [.ci .u8 x22_17, .cb x22_36], .agg [.ci .u8 (.bin .or .u8 (.ite (.cmp .gtr x22_17 (.lit (.ofNat 127))) (.lit (.ofNat 128)) (.lit (.ofNat 0))) (.bin .or .u8 (.ite (.cmp .gtr (.bin .and .u8 (.bin .and .u8 (.bin .xor .u8 (.lit (.ofNat 255)) (.bin .xor .u8 (.iv 2) (.iv 4))) (.bin .xor .u8 (.iv 2) x22_17)) (.lit (.ofNat 128))) (.lit (.ofNat 0))) (.lit (.ofNat 64)) (.lit (.ofNat 0))) (.bin .or .u8 (.ite (.cmp .neq (.bin .and .u64 (.iv 0) (.lit (.ofNat 8))) (.lit (.ofNat 0))) (.lit (.ofNat 8)) (.lit (.ofNat 0))) (.bin .or .u8 (.ite (.cmp .neq (.bin .and .u64 (.iv 0) (.lit (.ofNat 4))) (.lit (.ofNat 0))) (.lit (.ofNat 4)) (.lit (.ofNat 0))) (.bin .or .u8 (.ite (.cmp .eql x22_17 (.lit (.ofNat 0))) (.lit (.ofNat 2)) (.lit (.ofNat 0))) (.ite (.cmp .gtr x22_16 (.lit (.ofNat 255))) (.lit (.ofNat 1)) (.lit (.ofNat 0)))))))), .ci .u8 (.bin .or .u8 (.ite x22_36 (.lit (.ofNat 128)) (.lit (.ofNat 0))) (.bin .or .u8 (.ite x22_36 (.lit (.ofNat 64)) (.lit (.ofNat 0))) (.bin .or .u8 (.ite (.cmp .neq (.bin .and .u64 (.iv 1) (.lit (.ofNat 8))) (.lit (.ofNat 0))) (.lit (.ofNat 8)) (.lit (.ofNat 0))) (.bin .or .u8 (.ite (.cmp .neq (.bin .and .u64 (.iv 1) (.lit (.ofNat 4))) (.lit (.ofNat 0))) (.lit (.ofNat 4)) (.lit (.ofNat 0))) (.bin .or .u8 (.ite x22_36 (.lit (.ofNat 2)) (.lit (.ofNat 0))) (.ite x22_36 (.lit (.ofNat 1)) (.lit (.ofNat 0))))))))]]
def ss22 : List SV := [.agg [.ci .u8 (.iv 0), .ci .u8 (.iv 1)], .agg [.ci .u8 (.iv 2), .cb (.bv 3)], .agg [.ci .u8 (.iv 4), .cb (.bv 5)]]
def ks22 : List LK := [.i .u8, .i .u8, .i .u8, .b, .i .u8, .b]
theorem args22 : argTs Try.prog Try.f22.params.toList 0 = some (ss22, ks22) := by kernel_rfl
theorem tree22 : tree Try.prog 12 (sumsIn sums38) 300 22 ss22 bare 0 ⟨ks22.map LK.rg, []⟩ = .leaf v22 := by kernel_rfl
def sums22 : List Sm := ⟨22, ss22, ks22, v22⟩ :: sums38
theorem sok22 : SumsOk Try.prog sums22 := sums_cons mixed sok38 args22 tree22 (by kernel_rfl)
def x26_2 : X := .bin .sub .u8 (.iv 2) (.iv 4)
def x26_7 : X := .or (.bv 3) (.and (.not (.bv 3)) (.bv 5))
def v26 : ST := .tup [.agg [.ci .u8 x26_2, .cb x26_7], .agg [.ci .u8 (.bin .or .u8 (.ite (.cmp .gtr x26_2 (.lit (.ofNat 127))) (.lit (.ofNat 128)) (.lit (.ofNat 0))) (.bin .or .u8 (.ite (.cmp .neq (.bin .and .u64 (.iv 0) (.lit (.ofNat 64))) (.lit (.ofNat 0))) (.lit (.ofNat 64)) (.lit (.ofNat 0))) (.bin .or .u8 (.ite (.cmp .neq (.bin .and .u64 (.iv 0) (.lit (.ofNat 8))) (.lit (.ofNat 0))) (.lit (.ofNat 8)) (.lit (.ofNat 0))) (.bin .or .u8 (.ite (.cmp .neq (.bin .and .u64 (.iv 0) (.lit (.ofNat 4))) (.lit (.ofNat 0))) (.lit (.ofNat 4)) (.lit (.ofNat 0))) (.bin .or .u8 (.ite (.cmp .eql x26_2 (.lit (.ofNat 0))) (.lit (.ofNat 2)) (.lit (.ofNat 0))) (.ite (.cmp .geq (.iv 2) (.iv 4)) (.lit (.ofNat 1)) (.lit (.ofNat 0)))))))), .ci .u8 (.bin .or .u8 (.ite x26_7 (.lit (.ofNat 128)) (.lit (.ofNat 0))) (.bin .or .u8 (.ite (.cmp .neq (.bin .and .u64 (.iv 1) (.lit (.ofNat 64))) (.lit (.ofNat 0))) (.lit (.ofNat 64)) (.lit (.ofNat 0))) (.bin .or .u8 (.ite (.cmp .neq (.bin .and .u64 (.iv 1) (.lit (.ofNat 8))) (.lit (.ofNat 0))) (.lit (.ofNat 8)) (.lit (.ofNat 0))) (.bin .or .u8 (.ite (.cmp .neq (.bin .and .u64 (.iv 1) (.lit (.ofNat 4))) (.lit (.ofNat 0))) (.lit (.ofNat 4)) (.lit (.ofNat 0))) (.bin .or .u8 (.ite x26_7 (.lit (.ofNat 2)) (.lit (.ofNat 0))) (.ite x26_7 (.lit (.ofNat 1)) (.lit (.ofNat 0))))))))]]
def ss26 : List SV := [.agg [.ci .u8 (.iv 0), .ci .u8 (.iv 1)], .agg [.ci .u8 (.iv 2), .cb (.bv 3)], .agg [.ci .u8 (.iv 4), .cb (.bv 5)]]
def ks26 : List LK := [.i .u8, .i .u8, .i .u8, .b, .i .u8, .b]
theorem args26 : argTs Try.prog Try.f26.params.toList 0 = some (ss26, ks26) := by kernel_rfl
theorem tree26 : tree Try.prog 12 (sumsIn sums22) 300 26 ss26 bare 0 ⟨ks26.map LK.rg, []⟩ = .leaf v26 := by kernel_rfl
def sums26 : List Sm := ⟨26, ss26, ks26, v26⟩ :: sums22
theorem sok26 : SumsOk Try.prog sums26 := sums_cons mixed sok22 args26 tree26 (by kernel_rfl)
def x28_2 : X := .bin .sub .u8 (.iv 2) (.iv 4)
def x28_36 : X := .or (.bv 3) (.and (.not (.bv 3)) (.bv 5))
def v28 : ST := .v (.agg [.ci .u8 (.bin .or .u8 (.ite (.cmp .gtr x28_2 (.lit (.ofNat 127))) (.lit (.ofNat 128)) (.lit (.ofNat 0))) (.bin .or .u8 (.ite (.cmp .neq (.bin .and .u64 (.iv 0) (.lit (.ofNat 64))) (.lit (.ofNat 0))) (.lit (.ofNat 64)) (.lit (.ofNat 0))) (.bin .or .u8 (.ite (.cmp .neq (.bin .and .u64 (.iv 0) (.lit (.ofNat 8))) (.lit (.ofNat 0))) (.lit (.ofNat 8)) (.lit (.ofNat 0))) (.bin .or .u8 (.ite (.cmp .neq (.bin .and .u64 (.iv 0) (.lit (.ofNat 4))) (.lit (.ofNat 0))) (.lit (.ofNat 4)) (.lit (.ofNat 0))) (.bin .or .u8 (.ite (.cmp .eql x28_2 (.lit (.ofNat 0))) (.lit (.ofNat 2)) (.lit (.ofNat 0))) (.ite (.cmp .geq (.iv 2) (.iv 4)) (.lit (.ofNat 1)) (.lit (.ofNat 0)))))))), .ci .u8 (.bin .or .u8 (.ite x28_36 (.lit (.ofNat 128)) (.lit (.ofNat 0))) (.bin .or .u8 (.ite (.cmp .neq (.bin .and .u64 (.iv 1) (.lit (.ofNat 64))) (.lit (.ofNat 0))) (.lit (.ofNat 64)) (.lit (.ofNat 0))) (.bin .or .u8 (.ite (.cmp .neq (.bin .and .u64 (.iv 1) (.lit (.ofNat 8))) (.lit (.ofNat 0))) (.lit (.ofNat 8)) (.lit (.ofNat 0))) (.bin .or .u8 (.ite (.cmp .neq (.bin .and .u64 (.iv 1) (.lit (.ofNat 4))) (.lit (.ofNat 0))) (.lit (.ofNat 4)) (.lit (.ofNat 0))) (.bin .or .u8 (.ite x28_36 (.lit (.ofNat 2)) (.lit (.ofNat 0))) (.ite x28_36 (.lit (.ofNat 1)) (.lit (.ofNat 0))))))))])
def ss28 : List SV := [.agg [.ci .u8 (.iv 0), .ci .u8 (.iv 1)], .agg [.ci .u8 (.iv 2), .cb (.bv 3)], .agg [.ci .u8 (.iv 4), .cb (.bv 5)]]
def ks28 : List LK := [.i .u8, .i .u8, .i .u8, .b, .i .u8, .b]
theorem args28 : argTs Try.prog Try.f28.params.toList 0 = some (ss28, ks28) := by kernel_rfl
theorem tree28 : tree Try.prog 12 (sumsIn sums26) 300 28 ss28 bare 0 ⟨ks28.map LK.rg, []⟩ = .leaf v28 := by kernel_rfl
def sums28 : List Sm := ⟨28, ss28, ks28, v28⟩ :: sums26
theorem sok28 : SumsOk Try.prog sums28 := sums_cons mixed sok26 args28 tree28 (by kernel_rfl)
def v17 : ST := .v (.agg [.ci .u8 (.bin .or .u8 (.ite (.cmp .neq (.bin .and .u64 (.iv 0) (.lit (.ofNat 128))) (.lit (.ofNat 0))) (.lit (.ofNat 128)) (.lit (.ofNat 0))) (.bin .or .u8 (.ite (.cmp .neq (.bin .and .u64 (.iv 0) (.lit (.ofNat 64))) (.lit (.ofNat 0))) (.lit (.ofNat 64)) (.lit (.ofNat 0))) (.bin .or .u8 (.lit (.ofNat 32)) (.bin .or .u8 (.ite (.bv 2) (.lit (.ofNat 16)) (.lit (.ofNat 0))) (.bin .or .u8 (.ite (.cmp .neq (.bin .and .u64 (.iv 0) (.lit (.ofNat 8))) (.lit (.ofNat 0))) (.lit (.ofNat 8)) (.lit (.ofNat 0))) (.bin .or .u8 (.ite (.cmp .neq (.bin .and .u64 (.iv 0) (.lit (.ofNat 4))) (.lit (.ofNat 0))) (.lit (.ofNat 4)) (.lit (.ofNat 0))) (.bin .or .u8 (.ite (.cmp .neq (.bin .and .u64 (.iv 0) (.lit (.ofNat 2))) (.lit (.ofNat 0))) (.lit (.ofNat 2)) (.lit (.ofNat 0))) (.ite (.cmp .neq (.bin .and .u64 (.iv 0) (.lit (.ofNat 1))) (.lit (.ofNat 0))) (.lit (.ofNat 1)) (.lit (.ofNat 0)))))))))), .cb (.or (.cmp .neq (.bin .and .u64 (.iv 1) (.lit (.ofNat 128))) (.lit (.ofNat 0))) (.or (.cmp .neq (.bin .and .u64 (.iv 1) (.lit (.ofNat 64))) (.lit (.ofNat 0))) (.or (.cmp .neq (.bin .and .u64 (.iv 1) (.lit (.ofNat 8))) (.lit (.ofNat 0))) (.or (.cmp .neq (.bin .and .u64 (.iv 1) (.lit (.ofNat 4))) (.lit (.ofNat 0))) (.or (.cmp .neq (.bin .and .u64 (.iv 1) (.lit (.ofNat 2))) (.lit (.ofNat 0))) (.cmp .neq (.bin .and .u64 (.iv 1) (.lit (.ofNat 1))) (.lit (.ofNat 0))))))))])
def ss17 : List SV := [.agg [.ci .u8 (.iv 0), .ci .u8 (.iv 1)], .c (.cb (.bv 2))]
def ks17 : List LK := [.i .u8, .i .u8, .b]
theorem args17 : argTs Try.prog Try.f17.params.toList 0 = some (ss17, ks17) := by kernel_rfl
theorem tree17 : (tree Try.prog 12 (sumsIn sums28) 300 17 ss17 bare 0 ⟨ks17.map LK.rg, []⟩).small ⟨ks17.map LK.rg, []⟩ = some v17 := by kernel_rfl
def sums17 : List Sm := ⟨17, ss17, ks17, v17⟩ :: sums28
theorem sok17 : SumsOk Try.prog sums17 := sums_norm mixed sok28 args17 tree17 (by kernel_rfl)
def v21 : ST := .v (.c (.cb (.bl true)))
def ss21 : List SV := []
def ks21 : List LK := []
theorem args21 : argTs Try.prog Try.f21.params.toList 0 = some (ss21, ks21) := by kernel_rfl
theorem tree21 : tree Try.prog 12 (sumsIn sums17) 300 21 ss21 bare 0 ⟨ks21.map LK.rg, []⟩ = .leaf v21 := by kernel_rfl
def sums21 : List Sm := ⟨21, ss21, ks21, v21⟩ :: sums17
theorem sok21 : SumsOk Try.prog sums21 := sums_cons mixed sok17 args21 tree21 (by kernel_rfl)
def ss6 : List SV := [.agg [.ci .u8 (.iv 0), .ci .u8 (.iv 1), .ci .u8 (.iv 2), .cb (.bv 3), .ci .u8 (.iv 4), .cb (.bv 5), .ci .u8 (.iv 6), .cb (.bv 7)]]
def ks6 : List LK := [.i .u8, .i .u8, .i .u8, .b, .i .u8, .b, .i .u8, .b]
theorem args6 : argTs Try.prog Try.f6.params.toList 0 = some (ss6, ks6) := by kernel_rfl
def K_ : Known := (⟨ks6.map LK.rg, []⟩ : Known)
theorem leaf_ : (tree Try.prog 12 (sumsIn sums21) 300 6 ss6 bare 0 K_).prove 300 100 K_ = true := by kernel_rfl
theorem plan6 : ∀ ρ, (⟨ks6.map LK.rg, []⟩ : Known).ok ρ → ∃ K d, K.ok ρ ∧ (tree Try.prog 12 (sumsIn sums21) 300 6 ss6 bare d K).prove 300 100 K = true := fun ρ h => ⟨K_, 0, h, leaf_⟩

def zeros : Env := ⟨fun _ => 0, fun _ => false, fun _ _ => 0, fun _ _ => false, fun _ => .bool false⟩
set_option maxRecDepth 100000 in
theorem lifted6 (os : Os) (started : os.Started) (H : Type) (enc : TypeId × Value → H) :
    ReturnsInHanded {} Try.checked os 6 .any (Rows.aluShiftsSpec.pre6 enc Try.prog Try.f6 Rows.aluShiftsRow.domain false) (Rows.aluShiftsSpec.post enc Try.prog Try.f6 false true false false) := by
  refine returnsInHanded_of_change (C := Try.checked) own started (by kernel_rfl) Try.func6
    (ChangeSpec.witness6 (enc := enc) (C := Try.checked) false ⟨#[], (ss6.map (SV.den zeros fun _ => 0)).toArray, []⟩ 8 (by kernel_rfl) (by kernel_rfl) (by kernel_rfl) (by kernel_rfl)) ?_
  intro W base args ds gs before hval0 hW _ _
  have hval : ∀ (j : Nat) t v, Try.f6.params[j]? = some t → args[j]? = some v → Value.okWide Try.prog W .any base t v := hval0
  have hW' := hW
  obtain ⟨p, q, hA0, hV, rfl, _, _⟩ := hW
  have hA : DataW.TrodAll enc Try.prog W 0 (fun _ => true) true Try.f6.params.toList args.toList ds p := hA0
  obtain ⟨rfl, rfl⟩ := trodVars_none hV
  have hA1 := hA
  rw [Try.params6] at hA1
  obtain ⟨v0, d0, e1, rfl, _⟩ := trodAll_one hA1
  refine (flat_plan (r := .any) (base := base) mixed sok21 args6 plan6 (w := W) (by rw [e1]; rfl) (fun j t v ht hv => hval j t v (by simpa using ht) hv)).mono fun e W' ⟨⟨v, he, hv⟩, hb⟩ => ?_
  subst hv
  subst he
  exact ⟨_, rfl, law_post (tb := 4) laid rfl (by rw [Try.params6]; intro t ht; simp at ht; first | (subst ht; exact ⟨by kernel_rfl, of_decide_eq_true (by kernel_rfl)⟩) | (rcases ht with rfl | rfl <;> exact ⟨by kernel_rfl, of_decide_eq_true (by kernel_rfl)⟩) | (rcases ht with rfl | rfl | rfl <;> exact ⟨by kernel_rfl, of_decide_eq_true (by kernel_rfl)⟩)) rfl Try.underlying4 hW' hA hb ⟨rfl, rfl, rfl⟩⟩

theorem aluShifts_holds : Rows.AluShiftsSaid :=
  OpenClaim.holds_of_wide 6 Try.f6 rfl rfl rfl rfl rfl rfl rfl ⟨rfl, rfl, rfl, rfl, rfl⟩ rfl rfl rfl rfl rfl (by kernel_rfl) Try.func6 (by kernel_rfl)
    (of_decide_eq_true (by kernel_rfl)) (by unfold Func.isWrapper; first | (rw [if_pos (by decide +kernel)]; kernel_rfl) | (rw [if_neg (by decide +kernel)]; exact ⟨rfl, rfl⟩))
    (fun os started H enc _ => lifted6 os started H enc)
#print axioms aluShifts_holds
end Go.Proofs.Ytdgjenlejalgeaa
