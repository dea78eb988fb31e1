/- For every input AluFlags answers true. -/
import Derived.Test.YtdgjenlejalgeaaRows
import Derived.Test.YtdgjenlejalgeaaSx21
namespace Go.Proofs.Ytdgjenlejalgeaa
open Go.ChangeShapes Go.WideShapes Go.ChangeAt Go.RowKit Go.Sx

theorem own : ownKnob Try.prog.godebug = none := by kernel_rfl
theorem laid : laidOutB Try.prog = true := by kernel_rfl
theorem mixed : Try.prog.follows .mixedOrders = true := by kernel_rfl

def v9 : ST := .v (.agg [.ci .u8 (.bin .or .u8 (.ite (.cmp .neq (.bin .and .u64 (.iv 0) (.lit (.ofNat 128))) (.lit (.ofNat 0))) (.lit (.ofNat 128)) (.lit (.ofNat 0))) (.bin .or .u8 (.ite (.cmp .neq (.bin .and .u64 (.iv 0) (.lit (.ofNat 64))) (.lit (.ofNat 0))) (.lit (.ofNat 64)) (.lit (.ofNat 0))) (.bin .or .u8 (.ite (.cmp .neq (.bin .and .u64 (.iv 0) (.lit (.ofNat 8))) (.lit (.ofNat 0))) (.lit (.ofNat 8)) (.lit (.ofNat 0))) (.bin .or .u8 (.ite (.cmp .neq (.bin .and .u64 (.iv 0) (.lit (.ofNat 4))) (.lit (.ofNat 0))) (.lit (.ofNat 4)) (.lit (.ofNat 0))) (.bin .or .u8 (.ite (.cmp .neq (.bin .and .u64 (.iv 0) (.lit (.ofNat 2))) (.lit (.ofNat 0))) (.lit (.ofNat 2)) (.lit (.ofNat 0))) (.ite (.cmp .neq (.bin .and .u64 (.iv 0) (.lit (.ofNat 1))) (.lit (.ofNat 0))) (.lit (.ofNat 1)) (.lit (.ofNat 0)))))))), .ci .u8 (.bin .or .u8 (.ite (.cmp .neq (.bin .and .u64 (.iv 1) (.lit (.ofNat 128))) (.lit (.ofNat 0))) (.lit (.ofNat 128)) (.lit (.ofNat 0))) (.bin .or .u8 (.ite (.cmp .neq (.bin .and .u64 (.iv 1) (.lit (.ofNat 64))) (.lit (.ofNat 0))) (.lit (.ofNat 64)) (.lit (.ofNat 0))) (.bin .or .u8 (.ite (.cmp .neq (.bin .and .u64 (.iv 1) (.lit (.ofNat 8))) (.lit (.ofNat 0))) (.lit (.ofNat 8)) (.lit (.ofNat 0))) (.bin .or .u8 (.ite (.cmp .neq (.bin .and .u64 (.iv 1) (.lit (.ofNat 4))) (.lit (.ofNat 0))) (.lit (.ofNat 4)) (.lit (.ofNat 0))) (.bin .or .u8 (.ite (.cmp .neq (.bin .and .u64 (.iv 1) (.lit (.ofNat 2))) (.lit (.ofNat 0))) (.lit (.ofNat 2)) (.lit (.ofNat 0))) (.ite (.cmp .neq (.bin .and .u64 (.iv 1) (.lit (.ofNat 1))) (.lit (.ofNat 0))) (.lit (.ofNat 1)) (.lit (.ofNat 0))))))))])
def ss9 : List SV := [.agg [.ci .u8 (.iv 0), .ci .u8 (.iv 1)]]
def ks9 : List LK := [.i .u8, .i .u8]
theorem args9 : argTs Try.prog Try.f9.params.toList 0 = some (ss9, ks9) := by kernel_rfl
theorem tree9 : (tree Try.prog 12 (sumsIn []) 300 9 ss9 bare 0 ⟨ks9.map LK.rg, []⟩).small ⟨ks9.map LK.rg, []⟩ = some v9 := by kernel_rfl
def sums9 : List Sm := ⟨9, ss9, ks9, v9⟩ :: []
theorem sok9 : SumsOk Try.prog sums9 := sums_norm mixed sums_nil args9 tree9 (by kernel_rfl)
def v41 : ST := .v (.c (.ci .u8 (.bin .or .u8 (.ite (.cmp .neq (.bin .and .u64 (.iv 0) (.lit (.ofNat 128))) (.lit (.ofNat 0))) (.lit (.ofNat 128)) (.lit (.ofNat 0))) (.bin .or .u8 (.ite (.cmp .neq (.bin .and .u64 (.iv 0) (.lit (.ofNat 64))) (.lit (.ofNat 0))) (.lit (.ofNat 64)) (.lit (.ofNat 0))) (.bin .or .u8 (.ite (.cmp .neq (.bin .and .u64 (.iv 0) (.lit (.ofNat 8))) (.lit (.ofNat 0))) (.lit (.ofNat 8)) (.lit (.ofNat 0))) (.bin .or .u8 (.ite (.cmp .neq (.bin .and .u64 (.iv 0) (.lit (.ofNat 4))) (.lit (.ofNat 0))) (.lit (.ofNat 4)) (.lit (.ofNat 0))) (.bin .or .u8 (.ite (.cmp .neq (.bin .and .u64 (.iv 0) (.lit (.ofNat 2))) (.lit (.ofNat 0))) (.lit (.ofNat 2)) (.lit (.ofNat 0))) (.ite (.cmp .neq (.bin .and .u64 (.iv 0) (.lit (.ofNat 1))) (.lit (.ofNat 0))) (.lit (.ofNat 1)) (.lit (.ofNat 0))))))))))
def ss41 : List SV := [.c (.ci .u8 (.iv 0))]
def ks41 : List LK := [.i .u8]
theorem args41 : argTs Try.prog Try.f41.params.toList 0 = some (ss41, ks41) := by kernel_rfl
theorem tree41 : (tree Try.prog 12 (sumsIn sums9) 300 41 ss41 bare 0 ⟨ks41.map LK.rg, []⟩).small ⟨ks41.map LK.rg, []⟩ = some v41 := by kernel_rfl
def sums41 : List Sm := ⟨41, ss41, ks41, v41⟩ :: sums9
theorem sok41 : SumsOk Try.prog sums41 := sums_norm mixed sok9 args41 tree41 (by kernel_rfl)
def v10 : ST := .v (.agg [.ci .u8 (.bin .or .u8 (.ite (.cmp .neq (.bin .and .u64 (.iv 0) (.lit (.ofNat 128))) (.lit (.ofNat 0))) (.lit (.ofNat 128)) (.lit (.ofNat 0))) (.bin .or .u8 (.ite (.cmp .neq (.bin .and .u64 (.iv 0) (.lit (.ofNat 64))) (.lit (.ofNat 0))) (.lit (.ofNat 64)) (.lit (.ofNat 0))) (.bin .or .u8 (.ite (.cmp .neq (.bin .and .u64 (.iv 0) (.lit (.ofNat 8))) (.lit (.ofNat 0))) (.lit (.ofNat 8)) (.lit (.ofNat 0))) (.bin .or .u8 (.ite (.cmp .neq (.bin .and .u64 (.iv 0) (.lit (.ofNat 4))) (.lit (.ofNat 0))) (.lit (.ofNat 4)) (.lit (.ofNat 0))) (.bin .or .u8 (.ite (.cmp .neq (.bin .and .u64 (.iv 0) (.lit (.ofNat 2))) (.lit (.ofNat 0))) (.lit (.ofNat 2)) (.lit (.ofNat 0))) (.ite (.cmp .neq (.bin .and .u64 (.iv 0) (.lit (.ofNat 1))) (.lit (.ofNat 0))) (.lit (.ofNat 1)) (.lit (.ofNat 0)))))))), .ci .u8 (.bin .or .u8 (.ite (.cmp .neq (.bin .and .u64 (.iv 1) (.lit (.ofNat 128))) (.lit (.ofNat 0))) (.lit (.ofNat 128)) (.lit (.ofNat 0))) (.bin .or .u8 (.ite (.cmp .neq (.bin .and .u64 (.iv 1) (.lit (.ofNat 64))) (.lit (.ofNat 0))) (.lit (.ofNat 64)) (.lit (.ofNat 0))) (.bin .or .u8 (.ite (.cmp .neq (.bin .and .u64 (.iv 1) (.lit (.ofNat 8))) (.lit (.ofNat 0))) (.lit (.ofNat 8)) (.lit (.ofNat 0))) (.bin .or .u8 (.ite (.cmp .neq (.bin .and .u64 (.iv 1) (.lit (.ofNat 4))) (.lit (.ofNat 0))) (.lit (.ofNat 4)) (.lit (.ofNat 0))) (.bin .or .u8 (.ite (.cmp .neq (.bin .and .u64 (.iv 1) (.lit (.ofNat 2))) (.lit (.ofNat 0))) (.lit (.ofNat 2)) (.lit (.ofNat 0))) (.ite (.cmp .neq (.bin .and .u64 (.iv 1) (.lit (.ofNat 1))) (.lit (.ofNat 0))) (.lit (.ofNat 1)) (.lit (.ofNat 0))))))))])
def ss10 : List SV := [.agg [.ci .u8 (.iv 0), .ci .u8 (.iv 1)]]
def ks10 : List LK := [.i .u8, .i .u8]
theorem args10 : argTs Try.prog Try.f10.params.toList 0 = some (ss10, ks10) := by kernel_rfl
theorem tree10 : (tree Try.prog 12 (sumsIn sums41) 300 10 ss10 bare 0 ⟨ks10.map LK.rg, []⟩).small ⟨ks10.map LK.rg, []⟩ = some v10 := by kernel_rfl
def sums10 : List Sm := ⟨10, ss10, ks10, v10⟩ :: sums41
theorem sok10 : SumsOk Try.prog sums10 := sums_norm mixed sok41 args10 tree10 (by kernel_rfl)
def x11_4 : X := .cmp .neq (.bin .and .u64 (.iv 2) (.lit (.ofNat 128))) (.lit (.ofNat 0))
def x11_12 : X := .cmp .neq (.bin .and .u64 (.iv 2) (.lit (.ofNat 64))) (.lit (.ofNat 0))
def x11_19 : X := .cmp .neq (.bin .and .u64 (.iv 2) (.lit (.ofNat 8))) (.lit (.ofNat 0))
def x11_26 : X := .cmp .neq (.bin .and .u64 (.iv 2) (.lit (.ofNat 4))) (.lit (.ofNat 0))
def x11_33 : X := .cmp .neq (.bin .and .u64 (.iv 2) (.lit (.ofNat 2))) (.lit (.ofNat 0))
def x11_40 : X := .cmp .neq (.bin .and .u64 (.iv 2) (.lit (.ofNat 1))) (.lit (.ofNat 0))
def v11 : ST := .v (.agg [.ci .u8 (.ite (.cmp .gtr (.bin .or .u8 (.ite (.and x11_4 (.cmp .neq (.bin .and .u64 (.iv 0) (.lit (.ofNat 128))) (.lit (.ofNat 0)))) (.lit (.ofNat 128)) (.lit (.ofNat 0))) (.bin .or .u8 (.ite (.and x11_12 (.cmp .neq (.bin .and .u64 (.iv 0) (.lit (.ofNat 64))) (.lit (.ofNat 0)))) (.lit (.ofNat 64)) (.lit (.ofNat 0))) (.bin .or .u8 (.ite (.and x11_19 (.cmp .neq (.bin .and .u64 (.iv 0) (.lit (.ofNat 8))) (.lit (.ofNat 0)))) (.lit (.ofNat 8)) (.lit (.ofNat 0))) (.bin .or .u8 (.ite (.and x11_26 (.cmp .neq (.bin .and .u64 (.iv 0) (.lit (.ofNat 4))) (.lit (.ofNat 0)))) (.lit (.ofNat 4)) (.lit (.ofNat 0))) (.bin .or .u8 (.ite (.and x11_33 (.cmp .neq (.bin .and .u64 (.iv 0) (.lit (.ofNat 2))) (.lit (.ofNat 0)))) (.lit (.ofNat 2)) (.lit (.ofNat 0))) (.ite (.and x11_40 (.cmp .neq (.bin .and .u64 (.iv 0) (.lit (.ofNat 1))) (.lit (.ofNat 0)))) (.lit (.ofNat 1)) (.lit (.ofNat 0)))))))) (.lit (.ofNat 0))) (.lit (.ofNat 1)) (.lit (.ofNat 0))), .cb (.cmp .gtr (.bin .or .u8 (.ite (.and x11_4 (.cmp .neq (.bin .and .u64 (.iv 1) (.lit (.ofNat 128))) (.lit (.ofNat 0)))) (.lit (.ofNat 128)) (.lit (.ofNat 0))) (.bin .or .u8 (.ite (.and x11_12 (.cmp .neq (.bin .and .u64 (.iv 1) (.lit (.ofNat 64))) (.lit (.ofNat 0)))) (.lit (.ofNat 64)) (.lit (.ofNat 0))) (.bin .or .u8 (.ite (.and x11_19 (.cmp .neq (.bin .and .u64 (.iv 1) (.lit (.ofNat 8))) (.lit (.ofNat 0)))) (.lit (.ofNat 8)) (.lit (.ofNat 0))) (.bin .or .u8 (.ite (.and x11_26 (.cmp .neq (.bin .and .u64 (.iv 1) (.lit (.ofNat 4))) (.lit (.ofNat 0)))) (.lit (.ofNat 4)) (.lit (.ofNat 0))) (.bin .or .u8 (.ite (.and x11_33 (.cmp .neq (.bin .and .u64 (.iv 1) (.lit (.ofNat 2))) (.lit (.ofNat 0)))) (.lit (.ofNat 2)) (.lit (.ofNat 0))) (.ite (.and x11_40 (.cmp .neq (.bin .and .u64 (.iv 1) (.lit (.ofNat 1))) (.lit (.ofNat 0)))) (.lit (.ofNat 1)) (.lit (.ofNat 0)))))))) (.lit (.ofNat 0)))])
def ss11 : List SV := [.agg [.ci .u8 (.iv 0), .ci .u8 (.iv 1)], .c (.ci .u8 (.iv 2))]
def ks11 : List LK := [.i .u8, .i .u8, .i .u8]
theorem args11 : argTs Try.prog Try.f11.params.toList 0 = some (ss11, ks11) := by kernel_rfl
theorem tree11 : (tree Try.prog 12 (sumsIn sums10) 300 11 ss11 bare 0 ⟨ks11.map LK.rg, []⟩).small ⟨ks11.map LK.rg, []⟩ = some v11 := by kernel_rfl
def sums11 : List Sm := ⟨11, ss11, ks11, v11⟩ :: sums10
theorem sok11 : SumsOk Try.prog sums11 := sums_norm mixed sok10 args11 tree11 (by kernel_rfl)
def x42_4 : X := .cmp .neq (.bin .and .u64 (.iv 1) (.lit (.ofNat 1))) (.lit (.ofNat 0))
def x42_7 : X := .cmp .neq (.bin .and .u64 (.iv 0) (.lit (.ofNat 1))) (.lit (.ofNat 0))
def x42_14 : X := .cmp .neq (.bin .and .u64 (.iv 1) (.lit (.ofNat 2))) (.lit (.ofNat 0))
def x42_16 : X := .cmp .neq (.bin .and .u64 (.iv 0) (.lit (.ofNat 2))) (.lit (.ofNat 0))
def x42_23 : X := .cmp .neq (.bin .and .u64 (.iv 1) (.lit (.ofNat 4))) (.lit (.ofNat 0))
def x42_25 : X := .cmp .neq (.bin .and .u64 (.iv 0) (.lit (.ofNat 4))) (.lit (.ofNat 0))
def x42_32 : X := .cmp .neq (.bin .and .u64 (.iv 1) (.lit (.ofNat 8))) (.lit (.ofNat 0))
def x42_34 : X := .cmp .neq (.bin .and .u64 (.iv 0) (.lit (.ofNat 8))) (.lit (.ofNat 0))
def x42_41 : X := .cmp .neq (.bin .and .u64 (.iv 1) (.lit (.ofNat 16))) (.lit (.ofNat 0))
def x42_43 : X := .cmp .neq (.bin .and .u64 (.iv 0) (.lit (.ofNat 16))) (.lit (.ofNat 0))
def x42_53 : X := .cmp .neq (.bin .and .u64 (.iv 1) (.lit (.ofNat 64))) (.lit (.ofNat 0))
def x42_56 : X := .cmp .neq (.bin .and .u64 (.iv 1) (.lit (.ofNat 32))) (.lit (.ofNat 0))
def x42_58 : X := .cmp .neq (.bin .and .u64 (.iv 0) (.lit (.ofNat 128))) (.lit (.ofNat 0))
def x42_60 : X := .cmp .neq (.bin .and .u64 (.iv 0) (.lit (.ofNat 64))) (.lit (.ofNat 0))
def x42_62 : X := .cmp .neq (.bin .and .u64 (.iv 0) (.lit (.ofNat 32))) (.lit (.ofNat 0))
def x42_63 : X := .or x42_60 x42_62
def x42_83 : X := .or (.and x42_4 x42_7) (.and (.or (.not x42_4) (.not x42_7)) (.or (.and x42_14 x42_16) (.and (.or (.not x42_14) (.not x42_16)) (.or (.and x42_23 x42_25) (.and (.or (.not x42_23) (.not x42_25)) (.or (.and x42_32 x42_34) (.and (.or (.not x42_32) (.not x42_34)) (.or (.and x42_41 x42_43) (.and (.or (.not x42_41) (.not x42_43)) (.ite (.cmp .neq (.bin .and .u64 (.iv 1) (.lit (.ofNat 128))) (.lit (.ofNat 0))) (.ite x42_53 (.ite x42_56 (.or x42_58 x42_63) (.or x42_58 x42_60)) (.ite x42_56 (.or x42_58 x42_62) x42_58)) (.ite x42_53 (.ite x42_56 x42_63 x42_60) (.and x42_56 x42_62))))))))))))
def v42 : ST := .v (.c (.cb x42_83))
def ss42 : List SV := [.c (.ci .u8 (.iv 0)), .c (.ci .u8 (.iv 1))]
def ks42 : List LK := [.i .u8, .i .u8]
theorem args42 : argTs Try.prog Try.f42.params.toList 0 = some (ss42, ks42) := by kernel_rfl
theorem tree42 : (tree Try.prog 12 (sumsIn sums11) 300 42 ss42 bare 0 ⟨ks42.map LK.rg, []⟩).small ⟨ks42.map LK.rg, []⟩ = some v42 := by kernel_rfl
def sums42 : List Sm := ⟨42, ss42, ks42, v42⟩ :: sums11
theorem sok42 : SumsOk Try.prog sums42 := sums_norm mixed sok11 args42 tree42 (by kernel_rfl)
def x12_4 : X := .cmp .neq (.bin .and .u64 (.iv 2) (.lit (.ofNat 1))) (.lit (.ofNat 0))
def x12_7 : X := .cmp .neq (.bin .and .u64 (.iv 0) (.lit (.ofNat 1))) (.lit (.ofNat 0))
def x12_9 : X := .not x12_4
def x12_14 : X := .cmp .neq (.bin .and .u64 (.iv 2) (.lit (.ofNat 2))) (.lit (.ofNat 0))
def x12_16 : X := .cmp .neq (.bin .and .u64 (.iv 0) (.lit (.ofNat 2))) (.lit (.ofNat 0))
def x12_18 : X := .not x12_14
def x12_23 : X := .cmp .neq (.bin .and .u64 (.iv 2) (.lit (.ofNat 4))) (.lit (.ofNat 0))
def x12_25 : X := .cmp .neq (.bin .and .u64 (.iv 0) (.lit (.ofNat 4))) (.lit (.ofNat 0))
def x12_27 : X := .not x12_23
def x12_32 : X := .cmp .neq (.bin .and .u64 (.iv 2) (.lit (.ofNat 128))) (.lit (.ofNat 0))
def x12_35 : X := .cmp .neq (.bin .and .u64 (.iv 2) (.lit (.ofNat 64))) (.lit (.ofNat 0))
def x12_38 : X := .cmp .neq (.bin .and .u64 (.iv 2) (.lit (.ofNat 8))) (.lit (.ofNat 0))
def x12_40 : X := .cmp .neq (.bin .and .u64 (.iv 0) (.lit (.ofNat 128))) (.lit (.ofNat 0))
def x12_42 : X := .cmp .neq (.bin .and .u64 (.iv 0) (.lit (.ofNat 64))) (.lit (.ofNat 0))
def x12_44 : X := .cmp .neq (.bin .and .u64 (.iv 0) (.lit (.ofNat 8))) (.lit (.ofNat 0))
def x12_45 : X := .or x12_42 x12_44
def x12_65 : X := .cmp .neq (.bin .and .u64 (.iv 1) (.lit (.ofNat 1))) (.lit (.ofNat 0))
def x12_70 : X := .cmp .neq (.bin .and .u64 (.iv 1) (.lit (.ofNat 2))) (.lit (.ofNat 0))
def x12_75 : X := .cmp .neq (.bin .and .u64 (.iv 1) (.lit (.ofNat 4))) (.lit (.ofNat 0))
def x12_80 : X := .cmp .neq (.bin .and .u64 (.iv 1) (.lit (.ofNat 128))) (.lit (.ofNat 0))
def x12_82 : X := .cmp .neq (.bin .and .u64 (.iv 1) (.lit (.ofNat 64))) (.lit (.ofNat 0))
def x12_84 : X := .cmp .neq (.bin .and .u64 (.iv 1) (.lit (.ofNat 8))) (.lit (.ofNat 0))
def x12_85 : X := .or x12_82 x12_84
def v12 : ST := .v (.agg [.ci .u8 (.ite (.or (.and x12_4 x12_7) (.and (.or x12_9 (.not x12_7)) (.or (.and x12_14 x12_16) (.and (.or x12_18 (.not x12_16)) (.or (.and x12_23 x12_25) (.and (.or x12_27 (.not x12_25)) (.ite x12_32 (.ite x12_35 (.ite x12_38 (.or x12_40 x12_45) (.or x12_40 x12_42)) (.ite x12_38 (.or x12_40 x12_44) x12_40)) (.ite x12_35 (.ite x12_38 x12_45 x12_42) (.and x12_38 x12_44))))))))) (.lit (.ofNat 1)) (.lit (.ofNat 0))), .cb (.or (.and x12_4 x12_65) (.and (.or x12_9 (.not x12_65)) (.or (.and x12_14 x12_70) (.and (.or x12_18 (.not x12_70)) (.or (.and x12_23 x12_75) (.and (.or x12_27 (.not x12_75)) (.ite x12_32 (.ite x12_35 (.ite x12_38 (.or x12_80 x12_85) (.or x12_80 x12_82)) (.ite x12_38 (.or x12_80 x12_84) x12_80)) (.ite x12_35 (.ite x12_38 x12_85 x12_82) (.and x12_38 x12_84)))))))))])
def ss12 : List SV := [.agg [.ci .u8 (.iv 0), .ci .u8 (.iv 1)], .c (.ci .u8 (.iv 2))]
def ks12 : List LK := [.i .u8, .i .u8, .i .u8]
theorem args12 : argTs Try.prog Try.f12.params.toList 0 = some (ss12, ks12) := by kernel_rfl
theorem tree12 : (tree Try.prog 12 (sumsIn sums42) 300 12 ss12 bare 0 ⟨ks12.map LK.rg, []⟩).small ⟨ks12.map LK.rg, []⟩ = some v12 := by kernel_rfl
def sums12 : List Sm := ⟨12, ss12, ks12, v12⟩ :: sums42
theorem sok12 : SumsOk Try.prog sums12 := sums_norm mixed sok42 args12 tree12 (by kernel_rfl)
def x13_2 : X := .cmp .neq (.iv 3) (.lit (.ofNat 0))
def x13_6 : X := .cmp .neq (.bin .and .u64 (.iv 2) (.lit (.ofNat 128))) (.lit (.ofNat 0))
def x13_9 : X := .cmp .neq (.bin .and .u64 (.iv 0) (.lit (.ofNat 128))) (.lit (.ofNat 0))
def x13_11 : X := .not x13_6
def x13_17 : X := .cmp .neq (.bin .and .u64 (.iv 2) (.lit (.ofNat 64))) (.lit (.ofNat 0))
def x13_19 : X := .cmp .neq (.bin .and .u64 (.iv 0) (.lit (.ofNat 64))) (.lit (.ofNat 0))
def x13_21 : X := .not x13_17
def x13_27 : X := .cmp .neq (.bin .and .u64 (.iv 2) (.lit (.ofNat 8))) (.lit (.ofNat 0))
def x13_29 : X := .cmp .neq (.bin .and .u64 (.iv 0) (.lit (.ofNat 8))) (.lit (.ofNat 0))
def x13_31 : X := .not x13_27
def x13_37 : X := .cmp .neq (.bin .and .u64 (.iv 2) (.lit (.ofNat 4))) (.lit (.ofNat 0))
def x13_39 : X := .cmp .neq (.bin .and .u64 (.iv 0) (.lit (.ofNat 4))) (.lit (.ofNat 0))
def x13_41 : X := .not x13_37
def x13_47 : X := .cmp .neq (.bin .and .u64 (.iv 2) (.lit (.ofNat 2))) (.lit (.ofNat 0))
def x13_49 : X := .cmp .neq (.bin .and .u64 (.iv 0) (.lit (.ofNat 2))) (.lit (.ofNat 0))
def x13_51 : X := .not x13_47
def x13_57 : X := .cmp .neq (.bin .and .u64 (.iv 2) (.lit (.ofNat 1))) (.lit (.ofNat 0))
def x13_59 : X := .cmp .neq (.bin .and .u64 (.iv 0) (.lit (.ofNat 1))) (.lit (.ofNat 0))
def x13_61 : X := .not x13_57
def x13_73 : X := .cmp .neq (.bin .and .u64 (.iv 1) (.lit (.ofNat 128))) (.lit (.ofNat 0))
def x13_79 : X := .cmp .neq (.bin .and .u64 (.iv 1) (.lit (.ofNat 64))) (.lit (.ofNat 0))
def x13_85 : X := .cmp .neq (.bin .and .u64 (.iv 1) (.lit (.ofNat 8))) (.lit (.ofNat 0))
def x13_91 : X := .cmp .neq (.bin .and .u64 (.iv 1) (.lit (.ofNat 4))) (.lit (.ofNat 0))
def x13_97 : X := .cmp .neq (.bin .and .u64 (.iv 1) (.lit (.ofNat 2))) (.lit (.ofNat 0))
def x13_103 : X := .cmp .neq (.bin .and .u64 (.iv 1) (.lit (.ofNat 1))) (.lit (.ofNat 0))
def v13 : ST := .v (.agg [.ci .u8 (.bin .or .u8 (.ite (.ite x13_2 (.or x13_6 x13_9) (.and x13_11 x13_9)) (.lit (.ofNat 128)) (.lit (.ofNat 0))) (.bin .or .u8 (.ite (.ite x13_2 (.or x13_17 x13_19) (.and x13_21 x13_19)) (.lit (.ofNat 64)) (.lit (.ofNat 0))) (.bin .or .u8 (.ite (.ite x13_2 (.or x13_27 x13_29) (.and x13_31 x13_29)) (.lit (.ofNat 8)) (.lit (.ofNat 0))) (.bin .or .u8 (.ite (.ite x13_2 (.or x13_37 x13_39) (.and x13_41 x13_39)) (.lit (.ofNat 4)) (.lit (.ofNat 0))) (.bin .or .u8 (.ite (.ite x13_2 (.or x13_47 x13_49) (.and x13_51 x13_49)) (.lit (.ofNat 2)) (.lit (.ofNat 0))) (.ite (.ite x13_2 (.or x13_57 x13_59) (.and x13_61 x13_59)) (.lit (.ofNat 1)) (.lit (.ofNat 0)))))))), .ci .u8 (.bin .or .u8 (.ite (.ite (.bv 4) (.or x13_6 x13_73) (.and x13_11 x13_73)) (.lit (.ofNat 128)) (.lit (.ofNat 0))) (.bin .or .u8 (.ite (.ite (.bv 4) (.or x13_17 x13_79) (.and x13_21 x13_79)) (.lit (.ofNat 64)) (.lit (.ofNat 0))) (.bin .or .u8 (.ite (.ite (.bv 4) (.or x13_27 x13_85) (.and x13_31 x13_85)) (.lit (.ofNat 8)) (.lit (.ofNat 0))) (.bin .or .u8 (.ite (.ite (.bv 4) (.or x13_37 x13_91) (.and x13_41 x13_91)) (.lit (.ofNat 4)) (.lit (.ofNat 0))) (.bin .or .u8 (.ite (.ite (.bv 4) (.or x13_47 x13_97) (.and x13_51 x13_97)) (.lit (.ofNat 2)) (.lit (.ofNat 0))) (.ite (.ite (.bv 4) (.or x13_57 x13_103) (.and x13_61 x13_103)) (.lit (.ofNat 1)) (.lit (.ofNat 0))))))))])
def ss13 : List SV := [.agg [.ci .u8 (.iv 0), .ci .u8 (.iv 1)], .c (.ci .u8 (.iv 2)), .agg [.ci .u8 (.iv 3), .cb (.bv 4)]]
def ks13 : List LK := [.i .u8, .i .u8, .i .u8, .i .u8, .b]
theorem args13 : argTs Try.prog Try.f13.params.toList 0 = some (ss13, ks13) := by kernel_rfl
theorem tree13 : (tree Try.prog 12 (sumsIn sums12) 300 13 ss13 bare 0 ⟨ks13.map LK.rg, []⟩).small ⟨ks13.map LK.rg, []⟩ = some v13 := by kernel_rfl
def sums13 : List Sm := ⟨13, ss13, ks13, v13⟩ :: sums12
theorem sok13 : SumsOk Try.prog sums13 := sums_norm mixed sok12 args13 tree13 (by kernel_rfl)
def x44_5 : X := .cmp .neq (.bin .and .u64 (.iv 1) (.lit (.ofNat 128))) (.lit (.ofNat 0))
def x44_8 : X := .cmp .neq (.bin .and .u64 (.iv 0) (.lit (.ofNat 128))) (.lit (.ofNat 0))
def x44_16 : X := .cmp .neq (.bin .and .u64 (.iv 1) (.lit (.ofNat 64))) (.lit (.ofNat 0))
def x44_18 : X := .cmp .neq (.bin .and .u64 (.iv 0) (.lit (.ofNat 64))) (.lit (.ofNat 0))
def x44_26 : X := .cmp .neq (.bin .and .u64 (.iv 1) (.lit (.ofNat 8))) (.lit (.ofNat 0))
def x44_28 : X := .cmp .neq (.bin .and .u64 (.iv 0) (.lit (.ofNat 8))) (.lit (.ofNat 0))
def x44_36 : X := .cmp .neq (.bin .and .u64 (.iv 1) (.lit (.ofNat 4))) (.lit (.ofNat 0))
def x44_38 : X := .cmp .neq (.bin .and .u64 (.iv 0) (.lit (.ofNat 4))) (.lit (.ofNat 0))
def x44_46 : X := .cmp .neq (.bin .and .u64 (.iv 1) (.lit (.ofNat 2))) (.lit (.ofNat 0))
def x44_48 : X := .cmp .neq (.bin .and .u64 (.iv 0) (.lit (.ofNat 2))) (.lit (.ofNat 0))
def x44_56 : X := .cmp .neq (.bin .and .u64 (.iv 1) (.lit (.ofNat 1))) (.lit (.ofNat 0))
def x44_58 : X := .cmp .neq (.bin .and .u64 (.iv 0) (.lit (.ofNat 1))) (.lit (.ofNat 0))
def v44 : ST := .v (.c (.ci .u8 (.bin .or .u8 (.ite (.ite (.bv 2) (.or x44_5 x44_8) (.and (.not x44_5) x44_8)) (.lit (.ofNat 128)) (.lit (.ofNat 0))) (.bin .or .u8 (.ite (.ite (.bv 2) (.or x44_16 x44_18) (.and (.not x44_16) x44_18)) (.lit (.ofNat 64)) (.lit (.ofNat 0))) (.bin .or .u8 (.ite (.ite (.bv 2) (.or x44_26 x44_28) (.and (.not x44_26) x44_28)) (.lit (.ofNat 8)) (.lit (.ofNat 0))) (.bin .or .u8 (.ite (.ite (.bv 2) (.or x44_36 x44_38) (.and (.not x44_36) x44_38)) (.lit (.ofNat 4)) (.lit (.ofNat 0))) (.bin .or .u8 (.ite (.ite (.bv 2) (.or x44_46 x44_48) (.and (.not x44_46) x44_48)) (.lit (.ofNat 2)) (.lit (.ofNat 0))) (.ite (.ite (.bv 2) (.or x44_56 x44_58) (.and (.not x44_56) x44_58)) (.lit (.ofNat 1)) (.lit (.ofNat 0))))))))))
def ss44 : List SV := [.c (.ci .u8 (.iv 0)), .c (.ci .u8 (.iv 1)), .c (.cb (.bv 2))]
def ks44 : List LK := [.i .u8, .i .u8, .b]
theorem args44 : argTs Try.prog Try.f44.params.toList 0 = some (ss44, ks44) := by kernel_rfl
theorem tree44 : (tree Try.prog 12 (sumsIn sums13) 300 44 ss44 bare 0 ⟨ks44.map LK.rg, []⟩).small ⟨ks44.map LK.rg, []⟩ = some v44 := by kernel_rfl
def sums44 : List Sm := ⟨44, ss44, ks44, v44⟩ :: sums13
theorem sok44 : SumsOk Try.prog sums44 := sums_norm mixed sok13 args44 tree44 (by kernel_rfl)
def x14_2 : X := .cmp .neq (.iv 3) (.lit (.ofNat 0))
def x14_6 : X := .cmp .neq (.bin .and .u64 (.iv 2) (.lit (.ofNat 128))) (.lit (.ofNat 0))
def x14_9 : X := .cmp .neq (.bin .and .u64 (.iv 0) (.lit (.ofNat 128))) (.lit (.ofNat 0))
def x14_11 : X := .not x14_6
def x14_17 : X := .cmp .neq (.bin .and .u64 (.iv 2) (.lit (.ofNat 64))) (.lit (.ofNat 0))
def x14_19 : X := .cmp .neq (.bin .and .u64 (.iv 0) (.lit (.ofNat 64))) (.lit (.ofNat 0))
def x14_21 : X := .not x14_17
def x14_27 : X := .cmp .neq (.bin .and .u64 (.iv 2) (.lit (.ofNat 8))) (.lit (.ofNat 0))
def x14_29 : X := .cmp .neq (.bin .and .u64 (.iv 0) (.lit (.ofNat 8))) (.lit (.ofNat 0))
def x14_31 : X := .not x14_27
def x14_37 : X := .cmp .neq (.bin .and .u64 (.iv 2) (.lit (.ofNat 4))) (.lit (.ofNat 0))
def x14_39 : X := .cmp .neq (.bin .and .u64 (.iv 0) (.lit (.ofNat 4))) (.lit (.ofNat 0))
def x14_41 : X := .not x14_37
def x14_47 : X := .cmp .neq (.bin .and .u64 (.iv 2) (.lit (.ofNat 2))) (.lit (.ofNat 0))
def x14_49 : X := .cmp .neq (.bin .and .u64 (.iv 0) (.lit (.ofNat 2))) (.lit (.ofNat 0))
def x14_51 : X := .not x14_47
def x14_57 : X := .cmp .neq (.bin .and .u64 (.iv 2) (.lit (.ofNat 1))) (.lit (.ofNat 0))
def x14_59 : X := .cmp .neq (.bin .and .u64 (.iv 0) (.lit (.ofNat 1))) (.lit (.ofNat 0))
def x14_61 : X := .not x14_57
def x14_73 : X := .cmp .neq (.bin .and .u64 (.iv 1) (.lit (.ofNat 128))) (.lit (.ofNat 0))
def x14_79 : X := .cmp .neq (.bin .and .u64 (.iv 1) (.lit (.ofNat 64))) (.lit (.ofNat 0))
def x14_85 : X := .cmp .neq (.bin .and .u64 (.iv 1) (.lit (.ofNat 8))) (.lit (.ofNat 0))
def x14_91 : X := .cmp .neq (.bin .and .u64 (.iv 1) (.lit (.ofNat 4))) (.lit (.ofNat 0))
def x14_97 : X := .cmp .neq (.bin .and .u64 (.iv 1) (.lit (.ofNat 2))) (.lit (.ofNat 0))
def x14_103 : X := .cmp .neq (.bin .and .u64 (.iv 1) (.lit (.ofNat 1))) (.lit (.ofNat 0))
def v14 : ST := .v (.agg [.ci .u8 (.bin .or .u8 (.ite (.ite x14_2 (.or x14_6 x14_9) (.and x14_11 x14_9)) (.lit (.ofNat 128)) (.lit (.ofNat 0))) (.bin .or .u8 (.ite (.ite x14_2 (.or x14_17 x14_19) (.and x14_21 x14_19)) (.lit (.ofNat 64)) (.lit (.ofNat 0))) (.bin .or .u8 (.ite (.ite x14_2 (.or x14_27 x14_29) (.and x14_31 x14_29)) (.lit (.ofNat 8)) (.lit (.ofNat 0))) (.bin .or .u8 (.ite (.ite x14_2 (.or x14_37 x14_39) (.and x14_41 x14_39)) (.lit (.ofNat 4)) (.lit (.ofNat 0))) (.bin .or .u8 (.ite (.ite x14_2 (.or x14_47 x14_49) (.and x14_51 x14_49)) (.lit (.ofNat 2)) (.lit (.ofNat 0))) (.ite (.ite x14_2 (.or x14_57 x14_59) (.and x14_61 x14_59)) (.lit (.ofNat 1)) (.lit (.ofNat 0)))))))), .ci .u8 (.bin .or .u8 (.ite (.ite (.bv 4) (.or x14_6 x14_73) (.and x14_11 x14_73)) (.lit (.ofNat 128)) (.lit (.ofNat 0))) (.bin .or .u8 (.ite (.ite (.bv 4) (.or x14_17 x14_79) (.and x14_21 x14_79)) (.lit (.ofNat 64)) (.lit (.ofNat 0))) (.bin .or .u8 (.ite (.ite (.bv 4) (.or x14_27 x14_85) (.and x14_31 x14_85)) (.lit (.ofNat 8)) (.lit (.ofNat 0))) (.bin .or .u8 (.ite (.ite (.bv 4) (.or x14_37 x14_91) (.and x14_41 x14_91)) (.lit (.ofNat 4)) (.lit (.ofNat 0))) (.bin .or .u8 (.ite (.ite (.bv 4) (.or x14_47 x14_97) (.and x14_51 x14_97)) (.lit (.ofNat 2)) (.lit (.ofNat 0))) (.ite (.ite (.bv 4) (.or x14_57 x14_103) (.and x14_61 x14_103)) (.lit (.ofNat 1)) (.lit (.ofNat 0))))))))])
def ss14 : List SV := [.agg [.ci .u8 (.iv 0), .ci .u8 (.iv 1)], .c (.ci .u8 (.iv 2)), .agg [.ci .u8 (.iv 3), .cb (.bv 4)]]
def ks14 : List LK := [.i .u8, .i .u8, .i .u8, .i .u8, .b]
theorem args14 : argTs Try.prog Try.f14.params.toList 0 = some (ss14, ks14) := by kernel_rfl
theorem tree14 : (tree Try.prog 12 (sumsIn sums44) 300 14 ss14 bare 0 ⟨ks14.map LK.rg, []⟩).small ⟨ks14.map LK.rg, []⟩ = some v14 := by kernel_rfl
def sums14 : List Sm := ⟨14, ss14, ks14, v14⟩ :: sums44
theorem sok14 : SumsOk Try.prog sums14 := sums_norm mixed sok44 args14 tree14 (by kernel_rfl)
def v15 : ST := .v (.agg [.ci .u8 (.bin .or .u8 (.ite (.cmp .gtr (.iv 2) (.lit (.ofNat 127))) (.lit (.ofNat 128)) (.lit (.ofNat 0))) (.bin .or .u8 (.ite (.cmp .neq (.bin .and .u64 (.iv 0) (.lit (.ofNat 64))) (.lit (.ofNat 0))) (.lit (.ofNat 64)) (.lit (.ofNat 0))) (.bin .or .u8 (.ite (.cmp .neq (.bin .and .u64 (.iv 0) (.lit (.ofNat 8))) (.lit (.ofNat 0))) (.lit (.ofNat 8)) (.lit (.ofNat 0))) (.bin .or .u8 (.ite (.cmp .neq (.bin .and .u64 (.iv 0) (.lit (.ofNat 4))) (.lit (.ofNat 0))) (.lit (.ofNat 4)) (.lit (.ofNat 0))) (.bin .or .u8 (.ite (.cmp .eql (.iv 2) (.lit (.ofNat 0))) (.lit (.ofNat 2)) (.lit (.ofNat 0))) (.ite (.cmp .neq (.bin .and .u64 (.iv 0) (.lit (.ofNat 1))) (.lit (.ofNat 0))) (.lit (.ofNat 1)) (.lit (.ofNat 0)))))))), .ci .u8 (.bin .or .u8 (.ite (.bv 3) (.lit (.ofNat 128)) (.lit (.ofNat 0))) (.bin .or .u8 (.ite (.cmp .neq (.bin .and .u64 (.iv 1) (.lit (.ofNat 64))) (.lit (.ofNat 0))) (.lit (.ofNat 64)) (.lit (.ofNat 0))) (.bin .or .u8 (.ite (.cmp .neq (.bin .and .u64 (.iv 1) (.lit (.ofNat 8))) (.lit (.ofNat 0))) (.lit (.ofNat 8)) (.lit (.ofNat 0))) (.bin .or .u8 (.ite (.cmp .neq (.bin .and .u64 (.iv 1) (.lit (.ofNat 4))) (.lit (.ofNat 0))) (.lit (.ofNat 4)) (.lit (.ofNat 0))) (.bin .or .u8 (.ite (.bv 3) (.lit (.ofNat 2)) (.lit (.ofNat 0))) (.ite (.cmp .neq (.bin .and .u64 (.iv 1) (.lit (.ofNat 1))) (.lit (.ofNat 0))) (.lit (.ofNat 1)) (.lit (.ofNat 0))))))))])
def ss15 : List SV := [.agg [.ci .u8 (.iv 0), .ci .u8 (.iv 1)], .agg [.ci .u8 (.iv 2), .cb (.bv 3)]]
def ks15 : List LK := [.i .u8, .i .u8, .i .u8, .b]
theorem args15 : argTs Try.prog Try.f15.params.toList 0 = some (ss15, ks15) := by kernel_rfl
theorem tree15 : (tree Try.prog 12 (sumsIn sums14) 300 15 ss15 bare 0 ⟨ks15.map LK.rg, []⟩).small ⟨ks15.map LK.rg, []⟩ = some v15 := by kernel_rfl
def sums15 : List Sm := ⟨15, ss15, ks15, v15⟩ :: sums14
theorem sok15 : SumsOk Try.prog sums15 := sums_norm mixed sok14 args15 tree15 (by kernel_rfl)
def x46_5 : X := .cmp .neq (.bin .and .u64 (.iv 2) (.lit (.ofNat 128))) (.lit (.ofNat 0))
def x46_8 : X := .cmp .neq (.bin .and .u64 (.iv 0) (.lit (.ofNat 128))) (.lit (.ofNat 0))
def x46_10 : X := .not x46_5
def x46_16 : X := .cmp .neq (.bin .and .u64 (.iv 2) (.lit (.ofNat 64))) (.lit (.ofNat 0))
def x46_18 : X := .cmp .neq (.bin .and .u64 (.iv 0) (.lit (.ofNat 64))) (.lit (.ofNat 0))
def x46_20 : X := .not x46_16
def x46_26 : X := .cmp .neq (.bin .and .u64 (.iv 2) (.lit (.ofNat 8))) (.lit (.ofNat 0))
def x46_28 : X := .cmp .neq (.bin .and .u64 (.iv 0) (.lit (.ofNat 8))) (.lit (.ofNat 0))
def x46_30 : X := .not x46_26
def x46_36 : X := .cmp .neq (.bin .and .u64 (.iv 2) (.lit (.ofNat 4))) (.lit (.ofNat 0))
def x46_38 : X := .cmp .neq (.bin .and .u64 (.iv 0) (.lit (.ofNat 4))) (.lit (.ofNat 0))
def x46_40 : X := .not x46_36
def x46_46 : X := .cmp .neq (.bin .and .u64 (.iv 2) (.lit (.ofNat 2))) (.lit (.ofNat 0))
def x46_48 : X := .cmp .neq (.bin .and .u64 (.iv 0) (.lit (.ofNat 2))) (.lit (.ofNat 0))
def x46_50 : X := .not x46_46
def x46_56 : X := .cmp .neq (.bin .and .u64 (.iv 2) (.lit (.ofNat 1))) (.lit (.ofNat 0))
def x46_58 : X := .cmp .neq (.bin .and .u64 (.iv 0) (.lit (.ofNat 1))) (.lit (.ofNat 0))
def x46_60 : X := .not x46_56
def x46_72 : X := .cmp .neq (.bin .and .u64 (.iv 1) (.lit (.ofNat 128))) (.lit (.ofNat 0))
def x46_78 : X := .cmp .neq (.bin .and .u64 (.iv 1) (.lit (.ofNat 64))) (.lit (.ofNat 0))
def x46_84 : X := .cmp .neq (.bin .and .u64 (.iv 1) (.lit (.ofNat 8))) (.lit (.ofNat 0))
def x46_90 : X := .cmp .neq (.bin .and .u64 (.iv 1) (.lit (.ofNat 4))) (.lit (.ofNat 0))
def x46_96 : X := .cmp .neq (.bin .and .u64 (.iv 1) (.lit (.ofNat 2))) (.lit (.ofNat 0))
def x46_102 : X := .cmp .neq (.bin .and .u64 (.iv 1) (.lit (.ofNat 1))) (.lit (.ofNat 0))
def v46 : ST := .v (.agg [.ci .u8 (.bin .or .u8 (.ite (.ite (.bv 3) (.or x46_5 x46_8) (.and x46_10 x46_8)) (.lit (.ofNat 128)) (.lit (.ofNat 0))) (.bin .or .u8 (.ite (.ite (.bv 3) (.or x46_16 x46_18) (.and x46_20 x46_18)) (.lit (.ofNat 64)) (.lit (.ofNat 0))) (.bin .or .u8 (.ite (.ite (.bv 3) (.or x46_26 x46_28) (.and x46_30 x46_28)) (.lit (.ofNat 8)) (.lit (.ofNat 0))) (.bin .or .u8 (.ite (.ite (.bv 3) (.or x46_36 x46_38) (.and x46_40 x46_38)) (.lit (.ofNat 4)) (.lit (.ofNat 0))) (.bin .or .u8 (.ite (.ite (.bv 3) (.or x46_46 x46_48) (.and x46_50 x46_48)) (.lit (.ofNat 2)) (.lit (.ofNat 0))) (.ite (.ite (.bv 3) (.or x46_56 x46_58) (.and x46_60 x46_58)) (.lit (.ofNat 1)) (.lit (.ofNat 0)))))))), .ci .u8 (.bin .or .u8 (.ite (.ite (.bv 4) (.or x46_5 x46_72) (.and x46_10 x46_72)) (.lit (.ofNat 128)) (.lit (.ofNat 0))) (.bin .or .u8 (.ite (.ite (.bv 4) (.or x46_16 x46_78) (.and x46_20 x46_78)) (.lit (.ofNat 64)) (.lit (.ofNat 0))) (.bin .or .u8 (.ite (.ite (.bv 4) (.or x46_26 x46_84) (.and x46_30 x46_84)) (.lit (.ofNat 8)) (.lit (.ofNat 0))) (.bin .or .u8 (.ite (.ite (.bv 4) (.or x46_36 x46_90) (.and x46_40 x46_90)) (.lit (.ofNat 4)) (.lit (.ofNat 0))) (.bin .or .u8 (.ite (.ite (.bv 4) (.or x46_46 x46_96) (.and x46_50 x46_96)) (.lit (.ofNat 2)) (.lit (.ofNat 0))) (.ite (.ite (.bv 4) (.or x46_56 x46_102) (.and x46_60 x46_102)) (.lit (.ofNat 1)) (.lit (.ofNat 0))))))))])
def ss46 : List SV := [.agg [.ci .u8 (.iv 0), .ci .u8 (.iv 1)], .c (.ci .u8 (.iv 2)), .c (.cb (.bv 3)), .c (.cb (.bv 4))]
def ks46 : List LK := [.i .u8, .i .u8, .i .u8, .b, .b]
theorem args46 : argTs Try.prog Try.f46.params.toList 0 = some (ss46, ks46) := by kernel_rfl
theorem tree46 : (tree Try.prog 12 (sumsIn sums15) 300 46 ss46 bare 0 ⟨ks46.map LK.rg, []⟩).small ⟨ks46.map LK.rg, []⟩ = some v46 := by kernel_rfl
def sums46 : List Sm := ⟨46, ss46, ks46, v46⟩ :: sums15
theorem sok46 : SumsOk Try.prog sums46 := sums_norm mixed sok15 args46 tree46 (by kernel_rfl)
def v16 : ST := .v (.agg [.ci .u8 (.bin .or .u8 (.ite (.cmp .geq (.iv 2) (.lit (.ofNat 128))) (.lit (.ofNat 128)) (.lit (.ofNat 0))) (.bin .or .u8 (.ite (.cmp .neq (.bin .and .u64 (.iv 0) (.lit (.ofNat 64))) (.lit (.ofNat 0))) (.lit (.ofNat 64)) (.lit (.ofNat 0))) (.bin .or .u8 (.ite (.cmp .neq (.bin .and .u64 (.iv 0) (.lit (.ofNat 8))) (.lit (.ofNat 0))) (.lit (.ofNat 8)) (.lit (.ofNat 0))) (.bin .or .u8 (.ite (.cmp .neq (.bin .and .u64 (.iv 0) (.lit (.ofNat 4))) (.lit (.ofNat 0))) (.lit (.ofNat 4)) (.lit (.ofNat 0))) (.bin .or .u8 (.ite (.cmp .eql (.iv 2) (.lit (.ofNat 0))) (.lit (.ofNat 2)) (.lit (.ofNat 0))) (.ite (.cmp .neq (.bin .and .u64 (.iv 0) (.lit (.ofNat 1))) (.lit (.ofNat 0))) (.lit (.ofNat 1)) (.lit (.ofNat 0)))))))), .ci .u8 (.bin .or .u8 (.ite (.bv 3) (.lit (.ofNat 128)) (.lit (.ofNat 0))) (.bin .or .u8 (.ite (.cmp .neq (.bin .and .u64 (.iv 1) (.lit (.ofNat 64))) (.lit (.ofNat 0))) (.lit (.ofNat 64)) (.lit (.ofNat 0))) (.bin .or .u8 (.ite (.cmp .neq (.bin .and .u64 (.iv 1) (.lit (.ofNat 8))) (.lit (.ofNat 0))) (.lit (.ofNat 8)) (.lit (.ofNat 0))) (.bin .or .u8 (.ite (.cmp .neq (.bin .and .u64 (.iv 1) (.lit (.ofNat 4))) (.lit (.ofNat 0))) (.lit (.ofNat 4)) (.lit (.ofNat 0))) (.bin .or .u8 (.ite (.bv 3) (.lit (.ofNat 2)) (.lit (.ofNat 0))) (.ite (.cmp .neq (.bin .and .u64 (.iv 1) (.lit (.ofNat 1))) (.lit (.ofNat 0))) (.lit (.ofNat 1)) (.lit (.ofNat 0))))))))])
def ss16 : List SV := [.agg [.ci .u8 (.iv 0), .ci .u8 (.iv 1)], .agg [.ci .u8 (.iv 2), .cb (.bv 3)]]
def ks16 : List LK := [.i .u8, .i .u8, .i .u8, .b]
theorem args16 : argTs Try.prog Try.f16.params.toList 0 = some (ss16, ks16) := by kernel_rfl
theorem tree16 : (tree Try.prog 12 (sumsIn sums46) 300 16 ss16 bare 0 ⟨ks16.map LK.rg, []⟩).small ⟨ks16.map LK.rg, []⟩ = some v16 := by kernel_rfl
def sums16 : List Sm := ⟨16, ss16, ks16, v16⟩ :: sums46
theorem sok16 : SumsOk Try.prog sums16 := sums_norm mixed sok46 args16 tree16 (by kernel_rfl)
def v17 : ST := .v (.agg [.ci .u8 (.bin .or .u8 (.ite (.cmp .neq (.bin .and .u64 (.iv 0) (.lit (.ofNat 128))) (.lit (.ofNat 0))) (.lit (.ofNat 128)) (.lit (.ofNat 0))) (.bin .or .u8 (.ite (.cmp .neq (.bin .and .u64 (.iv 0) (.lit (.ofNat 64))) (.lit (.ofNat 0))) (.lit (.ofNat 64)) (.lit (.ofNat 0))) (.bin .or .u8 (.lit (.ofNat 32)) (.bin .or .u8 (.ite (.bv 2) (.lit (.ofNat 16)) (.lit (.ofNat 0))) (.bin .or .u8 (.ite (.cmp .neq (.bin .and .u64 (.iv 0) (.lit (.ofNat 8))) (.lit (.ofNat 0))) (.lit (.ofNat 8)) (.lit (.ofNat 0))) (.bin .or .u8 (.ite (.cmp .neq (.bin .and .u64 (.iv 0) (.lit (.ofNat 4))) (.lit (.ofNat 0))) (.lit (.ofNat 4)) (.lit (.ofNat 0))) (.bin .or .u8 (.ite (.cmp .neq (.bin .and .u64 (.iv 0) (.lit (.ofNat 2))) (.lit (.ofNat 0))) (.lit (.ofNat 2)) (.lit (.ofNat 0))) (.ite (.cmp .neq (.bin .and .u64 (.iv 0) (.lit (.ofNat 1))) (.lit (.ofNat 0))) (.lit (.ofNat 1)) (.lit (.ofNat 0)))))))))), .cb (.or (.cmp .neq (.bin .and .u64 (.iv 1) (.lit (.ofNat 128))) (.lit (.ofNat 0))) (.or (.cmp .neq (.bin .and .u64 (.iv 1) (.lit (.ofNat 64))) (.lit (.ofNat 0))) (.or (.cmp .neq (.bin .and .u64 (.iv 1) (.lit (.ofNat 8))) (.lit (.ofNat 0))) (.or (.cmp .neq (.bin .and .u64 (.iv 1) (.lit (.ofNat 4))) (.lit (.ofNat 0))) (.or (.cmp .neq (.bin .and .u64 (.iv 1) (.lit (.ofNat 2))) (.lit (.ofNat 0))) (.cmp .neq (.bin .and .u64 (.iv 1) (.lit (.ofNat 1))) (.lit (.ofNat 0))))))))])
def ss17 : List SV := [.agg [.ci .u8 (.iv 0), .ci .u8 (.iv 1)], .c (.cb (.bv 2))]
def ks17 : List LK := [.i .u8, .i .u8, .b]
theorem args17 : argTs Try.prog Try.f17.params.toList 0 = some (ss17, ks17) := by kernel_rfl
theorem tree17 : (tree Try.prog 12 (sumsIn sums16) 300 17 ss17 bare 0 ⟨ks17.map LK.rg, []⟩).small ⟨ks17.map LK.rg, []⟩ = some v17 := by kernel_rfl
def sums17 : List Sm := ⟨17, ss17, ks17, v17⟩ :: sums16
theorem sok17 : SumsOk Try.prog sums17 := sums_norm mixed sok16 args17 tree17 (by kernel_rfl)
def v18 : ST := .v (.agg [.ci .u8 (.bin .or .u8 (.ite (.cmp .neq (.bin .and .u64 (.iv 0) (.lit (.ofNat 128))) (.lit (.ofNat 0))) (.lit (.ofNat 128)) (.lit (.ofNat 0))) (.bin .or .u8 (.ite (.cmp .neq (.bin .and .u64 (.iv 0) (.lit (.ofNat 64))) (.lit (.ofNat 0))) (.lit (.ofNat 64)) (.lit (.ofNat 0))) (.bin .or .u8 (.lit (.ofNat 32)) (.bin .or .u8 (.ite (.bv 2) (.lit (.ofNat 16)) (.lit (.ofNat 0))) (.bin .or .u8 (.ite (.cmp .neq (.bin .and .u64 (.iv 0) (.lit (.ofNat 8))) (.lit (.ofNat 0))) (.lit (.ofNat 8)) (.lit (.ofNat 0))) (.bin .or .u8 (.ite (.cmp .neq (.bin .and .u64 (.iv 0) (.lit (.ofNat 4))) (.lit (.ofNat 0))) (.lit (.ofNat 4)) (.lit (.ofNat 0))) (.bin .or .u8 (.ite (.cmp .neq (.bin .and .u64 (.iv 0) (.lit (.ofNat 2))) (.lit (.ofNat 0))) (.lit (.ofNat 2)) (.lit (.ofNat 0))) (.ite (.cmp .neq (.bin .and .u64 (.iv 0) (.lit (.ofNat 1))) (.lit (.ofNat 0))) (.lit (.ofNat 1)) (.lit (.ofNat 0)))))))))), .cb (.or (.cmp .neq (.bin .and .u64 (.iv 1) (.lit (.ofNat 128))) (.lit (.ofNat 0))) (.or (.cmp .neq (.bin .and .u64 (.iv 1) (.lit (.ofNat 64))) (.lit (.ofNat 0))) (.or (.cmp .neq (.bin .and .u64 (.iv 1) (.lit (.ofNat 8))) (.lit (.ofNat 0))) (.or (.cmp .neq (.bin .and .u64 (.iv 1) (.lit (.ofNat 4))) (.lit (.ofNat 0))) (.or (.cmp .neq (.bin .and .u64 (.iv 1) (.lit (.ofNat 2))) (.lit (.ofNat 0))) (.cmp .neq (.bin .and .u64 (.iv 1) (.lit (.ofNat 1))) (.lit (.ofNat 0))))))))])
def ss18 : List SV := [.agg [.ci .u8 (.iv 0), .ci .u8 (.iv 1)], .c (.cb (.bv 2))]
def ks18 : List LK := [.i .u8, .i .u8, .b]
theorem args18 : argTs Try.prog Try.f18.params.toList 0 = some (ss18, ks18) := by kernel_rfl
theorem tree18 : (tree Try.prog 12 (sumsIn sums17) 300 18 ss18 bare 0 ⟨ks18.map LK.rg, []⟩).small ⟨ks18.map LK.rg, []⟩ = some v18 := by kernel_rfl
def sums18 : List Sm := ⟨18, ss18, ks18, v18⟩ :: sums17
theorem sok18 : SumsOk Try.prog sums18 := sums_norm mixed sok17 args18 tree18 (by kernel_rfl)
def v19 : ST := .v (.agg [.ci .u8 (.bin .or .u8 (.ite (.cmp .neq (.bin .and .u64 (.iv 0) (.lit (.ofNat 128))) (.lit (.ofNat 0))) (.lit (.ofNat 128)) (.lit (.ofNat 0))) (.bin .or .u8 (.ite (.cmp .neq (.bin .and .u64 (.iv 0) (.lit (.ofNat 64))) (.lit (.ofNat 0))) (.lit (.ofNat 64)) (.lit (.ofNat 0))) (.bin .or .u8 (.ite (.cmp .neq (.bin .and .u64 (.iv 0) (.lit (.ofNat 8))) (.lit (.ofNat 0))) (.lit (.ofNat 8)) (.lit (.ofNat 0))) (.bin .or .u8 (.ite (.cmp .neq (.bin .and .u64 (.iv 0) (.lit (.ofNat 4))) (.lit (.ofNat 0))) (.lit (.ofNat 4)) (.lit (.ofNat 0))) (.bin .or .u8 (.ite (.cmp .neq (.bin .and .u64 (.iv 0) (.lit (.ofNat 2))) (.lit (.ofNat 0))) (.lit (.ofNat 2)) (.lit (.ofNat 0))) (.ite (.cmp .neq (.bin .and .u64 (.iv 0) (.lit (.ofNat 1))) (.lit (.ofNat 0))) (.lit (.ofNat 1)) (.lit (.ofNat 0)))))))), .ci .u8 (.ite (.bv 1) (.lit (.ofNat 207)) (.lit (.ofNat 0)))])
def ss19 : List SV := [.agg [.ci .u8 (.iv 0), .cb (.bv 1)]]
def ks19 : List LK := [.i .u8, .b]
theorem args19 : argTs Try.prog Try.f19.params.toList 0 = some (ss19, ks19) := by kernel_rfl
theorem tree19 : (tree Try.prog 12 (sumsIn sums18) 300 19 ss19 bare 0 ⟨ks19.map LK.rg, []⟩).small ⟨ks19.map LK.rg, []⟩ = some v19 := by kernel_rfl
def sums19 : List Sm := ⟨19, ss19, ks19, v19⟩ :: sums18
theorem sok19 : SumsOk Try.prog sums19 := sums_norm mixed sok18 args19 tree19 (by kernel_rfl)
def v20 : ST := .v (.agg [.ci .u8 (.bin .or .u8 (.ite (.cmp .neq (.bin .and .u64 (.iv 0) (.lit (.ofNat 128))) (.lit (.ofNat 0))) (.lit (.ofNat 128)) (.lit (.ofNat 0))) (.bin .or .u8 (.ite (.cmp .neq (.bin .and .u64 (.iv 0) (.lit (.ofNat 64))) (.lit (.ofNat 0))) (.lit (.ofNat 64)) (.lit (.ofNat 0))) (.bin .or .u8 (.ite (.cmp .neq (.bin .and .u64 (.iv 0) (.lit (.ofNat 8))) (.lit (.ofNat 0))) (.lit (.ofNat 8)) (.lit (.ofNat 0))) (.bin .or .u8 (.ite (.cmp .neq (.bin .and .u64 (.iv 0) (.lit (.ofNat 4))) (.lit (.ofNat 0))) (.lit (.ofNat 4)) (.lit (.ofNat 0))) (.bin .or .u8 (.ite (.cmp .neq (.bin .and .u64 (.iv 0) (.lit (.ofNat 2))) (.lit (.ofNat 0))) (.lit (.ofNat 2)) (.lit (.ofNat 0))) (.ite (.cmp .neq (.bin .and .u64 (.iv 0) (.lit (.ofNat 1))) (.lit (.ofNat 0))) (.lit (.ofNat 1)) (.lit (.ofNat 0)))))))), .ci .u8 (.ite (.bv 1) (.lit (.ofNat 207)) (.lit (.ofNat 0)))])
def ss20 : List SV := [.agg [.ci .u8 (.iv 0), .cb (.bv 1)]]
def ks20 : List LK := [.i .u8, .b]
theorem args20 : argTs Try.prog Try.f20.params.toList 0 = some (ss20, ks20) := by kernel_rfl
theorem tree20 : (tree Try.prog 12 (sumsIn sums19) 300 20 ss20 bare 0 ⟨ks20.map LK.rg, []⟩).small ⟨ks20.map LK.rg, []⟩ = some v20 := by kernel_rfl
def sums20 : List Sm := ⟨20, ss20, ks20, v20⟩ :: sums19
theorem sok20 : SumsOk Try.prog sums20 := sums_norm mixed sok19 args20 tree20 (by kernel_rfl)
def x22_9 : X := .bin .add .u64 (.bin .add .u64 (.iv 2) (.iv 4)) (.ite (.cmp .neq (.bin .and .u64 (.iv 0) (.lit (.ofNat 1))) (.lit (.ofNat 0))) (.lit (.ofNat 1)) (.lit (.ofNat 0)))
def x22_10 : X := .wrap .u8 x22_9
def x22_17 : X := .or (.bv 5) (.or (.bv 3) (.cmp .neq (.bin .and .u64 (.iv 1) (.lit (.ofNat 1))) (.lit (.ofNat 0))))
def x22_25 : X := .cmp .neq (.bin .and .u64 (.iv 2) (.lit (.ofNat 128))) (.lit (.ofNat 0))
def x22_33 : X := .cmp .neq (.bin .and .u64 (.iv 2) (.lit (.ofNat 64))) (.lit (.ofNat 0))
def x22_41 : X := .cmp .neq (.bin .and .u64 (.iv 2) (.lit (.ofNat 32))) (.lit (.ofNat 0))
def x22_49 : X := .cmp .neq (.bin .and .u64 (.iv 2) (.lit (.ofNat 16))) (.lit (.ofNat 0))
def x22_57 : X := .cmp .neq (.bin .and .u64 (.iv 2) (.lit (.ofNat 8))) (.lit (.ofNat 0))
def x22_65 : X := .cmp .neq (.bin .and .u64 (.iv 2) (.lit (.ofNat 4))) (.lit (.ofNat 0))
def x22_73 : X := .cmp .neq (.bin .and .u64 (.iv 2) (.lit (.ofNat 2))) (.lit (.ofNat 0))
def x22_80 : X := .cmp .neq (.bin .and .u64 (.iv 2) (.lit (.ofNat 1))) (.lit (.ofNat 0))
def x22_93 : X := .bin .and .u8 (.bin .and .u8 (.bin .or .u8 (.ite (.ite (.cmp .neq (.bin .and .u64 (.iv 4) (.lit (.ofNat 128))) (.lit (.ofNat 0))) x22_25 (.not x22_25)) (.lit (.ofNat 128)) (.lit (.ofNat 0))) (.bin .or .u8 (.ite (.ite (.cmp .neq (.bin .and .u64 (.iv 4) (.lit (.ofNat 64))) (.lit (.ofNat 0))) x22_33 (.not x22_33)) (.lit (.ofNat 64)) (.lit (.ofNat 0))) (.bin .or .u8 (.ite (.ite (.cmp .neq (.bin .and .u64 (.iv 4) (.lit (.ofNat 32))) (.lit (.ofNat 0))) x22_41 (.not x22_41)) (.lit (.ofNat 32)) (.lit (.ofNat 0))) (.bin .or .u8 (.ite (.ite (.cmp .neq (.bin .and .u64 (.iv 4) (.lit (.ofNat 16))) (.lit (.ofNat 0))) x22_49 (.not x22_49)) (.lit (.ofNat 16)) (.lit (.ofNat 0))) (.bin .or .u8 (.ite (.ite (.cmp .neq (.bin .and .u64 (.iv 4) (.lit (.ofNat 8))) (.lit (.ofNat 0))) x22_57 (.not x22_57)) (.lit (.ofNat 8)) (.lit (.ofNat 0))) (.bin .or .u8 (.ite (.ite (.cmp .neq (.bin .and .u64 (.iv 4) (.lit (.ofNat 4))) (.lit (.ofNat 0))) x22_65 (.not x22_65)) (.lit (.ofNat 4)) (.lit (.ofNat 0))) (.bin .or .u8 (.ite (.ite (.cmp .neq (.bin .and .u64 (.iv 4) (.lit (.ofNat 2))) (.lit (.ofNat 0))) x22_73 (.not x22_73)) (.lit (.ofNat 2)) (.lit (.ofNat 0))) (.ite (.ite (.cmp .neq (.bin .and .u64 (.iv 4) (.lit (.ofNat 1))) (.lit (.ofNat 0))) x22_80 (.not x22_80)) (.lit (.ofNat 1)) (.lit (.ofNat 0)))))))))) (.bin .xor .u8 (.iv 2) x22_10)) (.lit (.ofNat 128))
def v22 : ST := .tup [.agg [.ci .u8 x22_10, .cb x22_17], .agg [.ci .u8 (.bin .or .u8 (.ite (.cmp .gtr x22_10 (.lit (.ofNat 127))) (.lit (.ofNat 128)) (.lit (.ofNat 0))) (.bin .or .u8 (.ite (.cmp .gtr x22_93 (.lit (.ofNat 0))) (.lit (.ofNat 64)) (.lit (.ofNat 0))) (.bin .or .u8 (.ite (.cmp .neq (.bin .and .u64 (.iv 0) (.lit (.ofNat 8))) (.lit (.ofNat 0))) (.lit (.ofNat 8)) (.lit (.ofNat 0))) (.bin .or .u8 (.ite (.cmp .neq (.bin .and .u64 (.iv 0) (.lit (.ofNat 4))) (.lit (.ofNat 0))) (.lit (.ofNat 4)) (.lit (.ofNat 0))) (.bin .or .u8 (.ite (.cmp .eql x22_10 (.lit (.ofNat 0))) (.lit (.ofNat 2)) (.lit (.ofNat 0))) (.ite (.cmp .gtr x22_9 (.lit (.ofNat 255))) (.lit (.ofNat 1)) (.lit (.ofNat 0)))))))), .ci .u8 (.bin .or .u8 (.ite x22_17 (.lit (.ofNat 128)) (.lit (.ofNat 0))) (.bin .or .u8 (.ite x22_17 (.lit (.ofNat 64)) (.lit (.ofNat 0))) (.bin .or .u8 (.ite (.cmp .neq (.bin .and .u64 (.iv 1) (.lit (.ofNat 8))) (.lit (.ofNat 0))) (.lit (.ofNat 8)) (.lit (.ofNat 0))) (.bin .or .u8 (.ite (.cmp .neq (.bin .and .u64 (.iv 1) (.lit (.ofNat 4))) (.lit (.ofNat 0))) (.lit (.ofNat 4)) (.lit (.ofNat 0))) (.bin .or .u8 (.ite x22_17 (.lit (.ofNat 2)) (.lit (.ofNat 0))) (.ite x22_17 (.lit (.ofNat 1)) (.lit (.ofNat 0))))))))]]
def ss22 : List SV := [.agg [.ci .u8 (.iv 0), .ci .u8 (.iv 1)], .agg [.ci .u8 (.iv 2), .cb (.bv 3)], .agg [.ci .u8 (.iv 4), .cb (.bv 5)]]
def ks22 : List LK := [.i .u8, .i .u8, .i .u8, .b, .i .u8, .b]
theorem args22 : argTs Try.prog Try.f22.params.toList 0 = some (ss22, ks22) := by kernel_rfl
theorem tree22 : (tree Try.prog 12 (sumsIn sums20) 300 22 ss22 bare 0 ⟨ks22.map LK.rg, []⟩).small ⟨ks22.map LK.rg, []⟩ = some v22 := by kernel_rfl
def sums22 : List Sm := ⟨22, ss22, ks22, v22⟩ :: sums20
theorem sok22 : SumsOk Try.prog sums22 := sums_norm mixed sok20 args22 tree22 (by kernel_rfl)
def x26_2 : X := .bin .sub .u8 (.iv 2) (.iv 4)
def x26_5 : X := .or (.bv 5) (.bv 3)
def v26 : ST := .tup [.agg [.ci .u8 x26_2, .cb x26_5], .agg [.ci .u8 (.bin .or .u8 (.ite (.cmp .gtr x26_2 (.lit (.ofNat 127))) (.lit (.ofNat 128)) (.lit (.ofNat 0))) (.bin .or .u8 (.ite (.cmp .neq (.bin .and .u64 (.iv 0) (.lit (.ofNat 64))) (.lit (.ofNat 0))) (.lit (.ofNat 64)) (.lit (.ofNat 0))) (.bin .or .u8 (.ite (.cmp .neq (.bin .and .u64 (.iv 0) (.lit (.ofNat 8))) (.lit (.ofNat 0))) (.lit (.ofNat 8)) (.lit (.ofNat 0))) (.bin .or .u8 (.ite (.cmp .neq (.bin .and .u64 (.iv 0) (.lit (.ofNat 4))) (.lit (.ofNat 0))) (.lit (.ofNat 4)) (.lit (.ofNat 0))) (.bin .or .u8 (.ite (.cmp .eql x26_2 (.lit (.ofNat 0))) (.lit (.ofNat 2)) (.lit (.ofNat 0))) (.ite (.cmp .geq (.iv 2) (.iv 4)) (.lit (.ofNat 1)) (.lit (.ofNat 0)))))))), .ci .u8 (.bin .or .u8 (.ite x26_5 (.lit (.ofNat 128)) (.lit (.ofNat 0))) (.bin .or .u8 (.ite (.cmp .neq (.bin .and .u64 (.iv 1) (.lit (.ofNat 64))) (.lit (.ofNat 0))) (.lit (.ofNat 64)) (.lit (.ofNat 0))) (.bin .or .u8 (.ite (.cmp .neq (.bin .and .u64 (.iv 1) (.lit (.ofNat 8))) (.lit (.ofNat 0))) (.lit (.ofNat 8)) (.lit (.ofNat 0))) (.bin .or .u8 (.ite (.cmp .neq (.bin .and .u64 (.iv 1) (.lit (.ofNat 4))) (.lit (.ofNat 0))) (.lit (.ofNat 4)) (.lit (.ofNat 0))) (.bin .or .u8 (.ite x26_5 (.lit (.ofNat 2)) (.lit (.ofNat 0))) (.ite x26_5 (.lit (.ofNat 1)) (.lit (.ofNat 0))))))))]]
def ss26 : List SV := [.agg [.ci .u8 (.iv 0), .ci .u8 (.iv 1)], .agg [.ci .u8 (.iv 2), .cb (.bv 3)], .agg [.ci .u8 (.iv 4), .cb (.bv 5)]]
def ks26 : List LK := [.i .u8, .i .u8, .i .u8, .b, .i .u8, .b]
theorem args26 : argTs Try.prog Try.f26.params.toList 0 = some (ss26, ks26) := by kernel_rfl
theorem tree26 : (tree Try.prog 12 (sumsIn sums22) 300 26 ss26 bare 0 ⟨ks26.map LK.rg, []⟩).small ⟨ks26.map LK.rg, []⟩ = some v26 := by kernel_rfl
def sums26 : List Sm := ⟨26, ss26, ks26, v26⟩ :: sums22
theorem sok26 : SumsOk Try.prog sums26 := sums_norm mixed sok22 args26 tree26 (by kernel_rfl)
def x28_2 : X := .bin .sub .u8 (.iv 2) (.iv 4)
def x28_34 : X := .or (.bv 5) (.bv 3)
def v28 : ST := .v (.agg [.ci .u8 (.bin .or .u8 (.ite (.cmp .gtr x28_2 (.lit (.ofNat 127))) (.lit (.ofNat 128)) (.lit (.ofNat 0))) (.bin .or .u8 (.ite (.cmp .neq (.bin .and .u64 (.iv 0) (.lit (.ofNat 64))) (.lit (.ofNat 0))) (.lit (.ofNat 64)) (.lit (.ofNat 0))) (.bin .or .u8 (.ite (.cmp .neq (.bin .and .u64 (.iv 0) (.lit (.ofNat 8))) (.lit (.ofNat 0))) (.lit (.ofNat 8)) (.lit (.ofNat 0))) (.bin .or .u8 (.ite (.cmp .neq (.bin .and .u64 (.iv 0) (.lit (.ofNat 4))) (.lit (.ofNat 0))) (.lit (.ofNat 4)) (.lit (.ofNat 0))) (.bin .or .u8 (.ite (.cmp .eql x28_2 (.lit (.ofNat 0))) (.lit (.ofNat 2)) (.lit (.ofNat 0))) (.ite (.cmp .geq (.iv 2) (.iv 4)) (.lit (.ofNat 1)) (.lit (.ofNat 0)))))))), .ci .u8 (.bin .or .u8 (.ite x28_34 (.lit (.ofNat 128)) (.lit (.ofNat 0))) (.bin .or .u8 (.ite (.cmp .neq (.bin .and .u64 (.iv 1) (.lit (.ofNat 64))) (.lit (.ofNat 0))) (.lit (.ofNat 64)) (.lit (.ofNat 0))) (.bin .or .u8 (.ite (.cmp .neq (.bin .and .u64 (.iv 1) (.lit (.ofNat 8))) (.lit (.ofNat 0))) (.lit (.ofNat 8)) (.lit (.ofNat 0))) (.bin .or .u8 (.ite (.cmp .neq (.bin .and .u64 (.iv 1) (.lit (.ofNat 4))) (.lit (.ofNat 0))) (.lit (.ofNat 4)) (.lit (.ofNat 0))) (.bin .or .u8 (.ite x28_34 (.lit (.ofNat 2)) (.lit (.ofNat 0))) (.ite x28_34 (.lit (.ofNat 1)) (.lit (.ofNat 0))))))))])
def ss28 : List SV := [.agg [.ci .u8 (.iv 0), .ci .u8 (.iv 1)], .agg [.ci .u8 (.iv 2), .cb (.bv 3)], .agg [.ci .u8 (.iv 4), .cb (.bv 5)]]
def ks28 : List LK := [.i .u8, .i .u8, .i .u8, .b, .i .u8, .b]
theorem args28 : argTs Try.prog Try.f28.params.toList 0 = some (ss28, ks28) := by kernel_rfl
theorem tree28 : (tree Try.prog 12 (sumsIn sums26) 300 28 ss28 bare 0 ⟨ks28.map LK.rg, []⟩).small ⟨ks28.map LK.rg, []⟩ = some v28 := by kernel_rfl
def sums28 : List Sm := ⟨28, ss28, ks28, v28⟩ :: sums26
theorem sok28 : SumsOk Try.prog sums28 := sums_norm mixed sok26 args28 tree28 (by kernel_rfl)
def v21 : ST := .v (.c (.cb (.bl true)))
def ss21 : List SV := []
def ks21 : List LK := []
theorem args21 : argTs Try.prog Try.f21.params.toList 0 = some (ss21, ks21) := by kernel_rfl
theorem tree21 : (tree Try.prog 12 (sumsIn sums28) 300 21 ss21 bare 0 ⟨ks21.map LK.rg, []⟩).small ⟨ks21.map LK.rg, []⟩ = some v21 := by kernel_rfl
def sums21 : List Sm := ⟨21, ss21, ks21, v21⟩ :: sums28
theorem sok21 : SumsOk Try.prog sums21 := sums_norm mixed sok28 args21 tree21 (by kernel_rfl)
def ss3 : List SV := [.agg [.ci .u8 (.iv 0), .ci .u8 (.iv 1), .ci .u8 (.iv 2), .cb (.bv 3), .ci .u8 (.iv 4), .cb (.bv 5), .ci .u8 (.iv 6), .cb (.bv 7)]]
def ks3 : List LK := [.i .u8, .i .u8, .i .u8, .b, .i .u8, .b, .i .u8, .b]
theorem args3 : argTs Try.prog Try.f3.params.toList 0 = some (ss3, ks3) := by kernel_rfl
def K_ : Known := (⟨ks3.map LK.rg, []⟩ : Known)
theorem leaf_ : (tree Try.prog 12 (sumsIn sums21) 300 3 ss3 bare 0 K_).prove 300 100 K_ = true := by kernel_rfl
theorem plan3 : ∀ ρ, (⟨ks3.map LK.rg, []⟩ : Known).ok ρ → ∃ K d, K.ok ρ ∧ (tree Try.prog 12 (sumsIn sums21) 300 3 ss3 bare d K).prove 300 100 K = true := fun ρ h => ⟨K_, 0, h, leaf_⟩

def zeros : Env := ⟨fun _ => 0, fun _ => false, fun _ _ => 0, fun _ _ => false, fun _ => .bool false⟩
set_option maxRecDepth 100000 in
theorem lifted3 (os : Os) (started : os.Started) (H : Type) (enc : TypeId × Value → H) :
    ReturnsInHanded {} Try.checked os 3 .any (Rows.aluFlagsSpec.pre6 enc Try.prog Try.f3 Rows.aluFlagsRow.domain false) (Rows.aluFlagsSpec.post enc Try.prog Try.f3 false true false false) := by
  refine returnsInHanded_of_change (C := Try.checked) own started (by kernel_rfl) Try.func3
    (ChangeSpec.witness6 (enc := enc) (C := Try.checked) false ⟨#[], (ss3.map (SV.den zeros fun _ => 0)).toArray, []⟩ 8 (by kernel_rfl) (by kernel_rfl) (by kernel_rfl) (by kernel_rfl)) ?_
  intro W base args ds gs before hval0 hW _ _
  have hval : ∀ (j : Nat) t v, Try.f3.params[j]? = some t → args[j]? = some v → Value.okWide Try.prog W .any base t v := hval0
  have hW' := hW
  obtain ⟨p, q, hA0, hV, rfl, _, _⟩ := hW
  have hA : DataW.TrodAll enc Try.prog W 0 (fun _ => true) true Try.f3.params.toList args.toList ds p := hA0
  obtain ⟨rfl, rfl⟩ := trodVars_none hV
  have hA1 := hA
  rw [Try.params3] at hA1
  obtain ⟨v0, d0, e1, rfl, _⟩ := trodAll_one hA1
  refine (flat_plan (r := .any) (base := base) mixed sok21 args3 plan3 (w := W) (by rw [e1]; rfl) (fun j t v ht hv => hval j t v (by simpa using ht) hv)).mono fun e W' ⟨⟨v, he, hv⟩, hb⟩ => ?_
  subst hv
  subst he
  exact ⟨_, rfl, law_post (tb := 4) laid rfl (by rw [Try.params3]; intro t ht; simp at ht; first | (subst ht; exact ⟨by kernel_rfl, of_decide_eq_true (by kernel_rfl)⟩) | (rcases ht with rfl | rfl <;> exact ⟨by kernel_rfl, of_decide_eq_true (by kernel_rfl)⟩) | (rcases ht with rfl | rfl | rfl <;> exact ⟨by kernel_rfl, of_decide_eq_true (by kernel_rfl)⟩)) rfl Try.underlying4 hW' hA hb ⟨rfl, rfl, rfl⟩⟩

theorem aluFlags_holds : Rows.AluFlagsSaid :=
  OpenClaim.holds_of_wide 3 Try.f3 rfl rfl rfl rfl rfl rfl rfl ⟨rfl, rfl, rfl, rfl, rfl⟩ rfl rfl rfl rfl rfl (by kernel_rfl) Try.func3 (by kernel_rfl)
    (of_decide_eq_true (by kernel_rfl)) (by unfold Func.isWrapper; first | (rw [if_pos (by decide +kernel)]; kernel_rfl) | (rw [if_neg (by decide +kernel)]; exact ⟨rfl, rfl⟩))
    (fun os started H enc _ => lifted3 os started H enc)
#print axioms aluFlags_holds
end Go.Proofs.Ytdgjenlejalgeaa
