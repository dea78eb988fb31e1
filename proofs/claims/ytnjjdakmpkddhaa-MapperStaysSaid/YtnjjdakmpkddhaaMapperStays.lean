/- For every input MapperStays answers true. -/
import Derived.Test.YtnjjdakmpkddhaaRows
import Derived.Test.YtnjjdakmpkddhaaSx23
namespace Go.Proofs.Ytnjjdakmpkddhaa
open Go.ChangeShapes Go.WideShapes Go.ChangeAt Go.RowKit Go.Sx

theorem own : ownKnob Try.prog.godebug = none := by kernel_rfl
theorem laid : laidOutB Try.prog = true := by kernel_rfl
theorem mixed : Try.prog.follows .mixedOrders = true := by kernel_rfl

def v26 : ST := .v (.c (.cb (.or (.and (.cmp .geq (.iv 0) (.lit (.ofNat 0))) (.cmp .leq (.iv 0) (.lit (.ofNat 4)))) (.cmp .eql (.iv 0) (.lit (.ofNat 7))))))
def ss26 : List SV := [.c (.ci .i64 (.iv 0))]
def ks26 : List LK := [.i .i64]
theorem args26 : argTs Try.prog Try.f26.params.toList 0 = some (ss26, ks26) := by kernel_rfl
theorem tree26 : tree Try.prog 12 (sumsIn []) 300 26 ss26 bare 0 ⟨ks26.map LK.rg, []⟩ = .leaf v26 := by kernel_rfl
def sums26 : List Sm := ⟨26, ss26, ks26, v26⟩ :: []
theorem sok26 : SumsOk Try.prog sums26 := sums_cons mixed sums_nil args26 tree26 (by kernel_rfl)
def x21_9 : X := .not (.or (.and (.cmp .geq (.iv 0) (.lit (.ofNat 0))) (.cmp .leq (.iv 0) (.lit (.ofNat 4)))) (.cmp .eql (.iv 0) (.lit (.ofNat 7))))
def x21_12 : X := .bin .quo .i64 (.iv 2) (.lit (.ofNat 16384))
def x21_14 : X := .cmp .eql x21_12 (.lit (.ofNat 1))
def x21_15 : X := .not x21_14
def x21_17 : X := .cmp .eql x21_12 (.lit (.ofNat 2))
def x21_19 : X := .not x21_17
def x21_20 : X := .cmp .eql x21_12 (.lit (.ofNat 4))
def x21_23 : X := .not x21_20
def x21_25 : X := .cmp .eql x21_12 (.lit (.ofNat 8))
def x21_30 : X := .not x21_25
def x21_32 : X := .cmp .eql x21_12 (.lit (.ofNat 16))
def x21_53 : X := .cmp .geq (.ite x21_14 (.lit (.ofNat 0)) (.ite (.and x21_15 x21_17) (.lit (.ofNat 1)) (.ite (.and x21_15 (.and x21_19 x21_20)) (.lit (.ofNat 2)) (.ite (.and x21_15 (.and x21_19 (.and x21_23 x21_25))) (.lit (.ofNat 3)) (.ite (.and x21_15 (.and x21_19 (.and x21_23 (.and x21_30 x21_32)))) (.lit (.ofNat 4)) (.ite (.and x21_15 (.and x21_19 (.and x21_23 (.and x21_30 (.and (.not x21_32) (.cmp .eql x21_12 (.lit (.ofNat 32)))))))) (.lit (.ofNat 5)) (.lit (.negSucc 0)))))))) (.lit (.ofNat 0))
def x21_60 : X := .bin .quo .i64 (.iv 3) (.lit (.ofNat 8192))
def x21_61 : X := .cmp .eql x21_60 (.lit (.ofNat 1))
def x21_62 : X := .not x21_61
def x21_63 : X := .cmp .eql x21_60 (.lit (.ofNat 2))
def x21_65 : X := .not x21_63
def x21_66 : X := .cmp .eql x21_60 (.lit (.ofNat 4))
def x21_69 : X := .not x21_66
def x21_70 : X := .cmp .eql x21_60 (.lit (.ofNat 8))
def x21_74 : X := .not x21_70
def x21_75 : X := .cmp .eql x21_60 (.lit (.ofNat 16))
def x21_93 : X := .cmp .geq (.ite x21_61 (.lit (.ofNat 0)) (.ite (.and x21_62 x21_63) (.lit (.ofNat 1)) (.ite (.and x21_62 (.and x21_65 x21_66)) (.lit (.ofNat 2)) (.ite (.and x21_62 (.and x21_65 (.and x21_69 x21_70))) (.lit (.ofNat 3)) (.ite (.and x21_62 (.and x21_65 (.and x21_69 (.and x21_74 x21_75)))) (.lit (.ofNat 4)) (.ite (.and x21_62 (.and x21_65 (.and x21_69 (.and x21_74 (.and (.not x21_75) (.cmp .eql x21_60 (.lit (.ofNat 32)))))))) (.lit (.ofNat 5)) (.lit (.negSucc 0)))))))) (.lit (.ofNat 0))
def x21_102 : X := .or (.or (.not (.and x21_53 (.cmp .eql (.bin .rem .i64 (.iv 2) (.lit (.ofNat 16384))) (.lit (.ofNat 0))))) (.not (.and x21_93 (.cmp .eql (.bin .rem .i64 (.iv 3) (.lit (.ofNat 8192))) (.lit (.ofNat 0)))))) (.and (.bv 8) (.cmp .neq (.iv 3) (.lit (.ofNat 8192))))
def v21 : ST := .v (.c (.ci .i64 (.ite (.or x21_9 (.or x21_102 (.or (.or (.cmp .lss (.iv 1) (.lit (.ofNat 0))) (.cmp .gtr (.iv 1) (.lit (.ofNat 15)))) (.and (.not (.bv 7)) (.cmp .neq (.iv 1) (.lit (.ofNat 0))))))) (.ite x21_9 (.lit (.ofNat 6)) (.ite x21_102 (.lit (.ofNat 5)) (.lit (.ofNat 1)))) (.lit (.ofNat 0)))))
def ss21 : List SV := [.agg [.ci .i64 (.iv 0), .ci .i64 (.iv 1), .ci .i64 (.iv 2), .ci .i64 (.iv 3), .cb (.bv 4), .cb (.bv 5), .cb (.bv 6), .cb (.bv 7), .cb (.bv 8)]]
def ks21 : List LK := [.i .i64, .i .i64, .i .i64, .i .i64, .b, .b, .b, .b, .b]
theorem args21 : argTs Try.prog Try.f21.params.toList 0 = some (ss21, ks21) := by kernel_rfl
theorem tree21 : tree Try.prog 12 (sumsIn sums26) 300 21 ss21 bare 0 ⟨ks21.map LK.rg, []⟩ = .leaf v21 := by kernel_rfl
def sums21 : List Sm := ⟨21, ss21, ks21, v21⟩ :: sums26
theorem sok21 : SumsOk Try.prog sums21 := sums_cons mixed sok26 args21 tree21 (by kernel_rfl)
def x9_9 : X := .not (.or (.and (.cmp .geq (.iv 0) (.lit (.ofNat 0))) (.cmp .leq (.iv 0) (.lit (.ofNat 4)))) (.cmp .eql (.iv 0) (.lit (.ofNat 7))))
def x9_21 : X := .ite (.cmp .gtr (.iv 5) (.iv 3)) (.iv 5) (.iv 3)
def x9_23 : X := .ite (.cmp .gtr (.iv 6) x9_21) (.iv 6) x9_21
def x9_25 : X := .ite (.cmp .gtr (.iv 7) x9_23) (.iv 7) x9_23
def v9 : ST := .v (.c (.ci .i64 (.ite (.or (.or (.or (.or (.cmp .neq (.ite x9_9 (.ite x9_9 (.lit (.ofNat 6)) (.lit (.ofNat 1))) (.lit (.ofNat 0))) (.lit (.ofNat 0))) (.cmp .geq (.ite (.cmp .gtr (.iv 8) x9_25) (.iv 8) x9_25) (.lit (.ofNat 32)))) (.cmp .geq (.iv 4) (.lit (.ofNat 5)))) (.cmp .lss (.iv 26) (.lit (.ofNat 0)))) (.cmp .gtr (.iv 26) (.lit (.ofNat 100)))) (.lit (.ofNat 1)) (.lit (.ofNat 0)))))
def ss9 : List SV := [.agg [.ci .i64 (.iv 0), .cb (.bv 1), .cb (.bv 2), .ci .u8 (.iv 3), .ci .u8 (.iv 4), .ci .u8 (.iv 5), .ci .u8 (.iv 6), .ci .u8 (.iv 7), .ci .u8 (.iv 8), .ci .i64 (.iv 9), .ci .u8 (.iv 10), .ci .u8 (.iv 11), .ci .u8 (.iv 12), .ci .u8 (.iv 13), .ci .u8 (.iv 14), .ci .u8 (.iv 15), .ci .u8 (.iv 16), .ci .u8 (.iv 17), .ci .u8 (.iv 18), .ci .u8 (.iv 19), .ci .u8 (.iv 20), .ci .u8 (.iv 21), .ci .u8 (.iv 22), .cb (.bv 23), .cb (.bv 24), .cb (.bv 25), .ci .i64 (.iv 26)]]
def ks9 : List LK := [.i .i64, .b, .b, .i .u8, .i .u8, .i .u8, .i .u8, .i .u8, .i .u8, .i .i64, .i .u8, .i .u8, .i .u8, .i .u8, .i .u8, .i .u8, .i .u8, .i .u8, .i .u8, .i .u8, .i .u8, .i .u8, .i .u8, .b, .b, .b, .i .i64]
theorem args9 : argTs Try.prog Try.f9.params.toList 0 = some (ss9, ks9) := by kernel_rfl
theorem tree9 : tree Try.prog 12 (sumsIn sums21) 300 9 ss9 bare 0 ⟨ks9.map LK.rg, []⟩ = .leaf v9 := by kernel_rfl
def sums9 : List Sm := ⟨9, ss9, ks9, v9⟩ :: sums21
theorem sok9 : SumsOk Try.prog sums9 := sums_cons mixed sok21 args9 tree9 (by kernel_rfl)
def x15_9 : X := .not (.or (.and (.cmp .geq (.iv 0) (.lit (.ofNat 0))) (.cmp .leq (.iv 0) (.lit (.ofNat 4)))) (.cmp .eql (.iv 0) (.lit (.ofNat 7))))
def x15_12 : X := .bin .quo .i64 (.iv 2) (.lit (.ofNat 16384))
def x15_14 : X := .cmp .eql x15_12 (.lit (.ofNat 1))
def x15_15 : X := .not x15_14
def x15_17 : X := .cmp .eql x15_12 (.lit (.ofNat 2))
def x15_19 : X := .not x15_17
def x15_20 : X := .cmp .eql x15_12 (.lit (.ofNat 4))
def x15_23 : X := .not x15_20
def x15_25 : X := .cmp .eql x15_12 (.lit (.ofNat 8))
def x15_30 : X := .not x15_25
def x15_32 : X := .cmp .eql x15_12 (.lit (.ofNat 16))
def x15_53 : X := .cmp .geq (.ite x15_14 (.lit (.ofNat 0)) (.ite (.and x15_15 x15_17) (.lit (.ofNat 1)) (.ite (.and x15_15 (.and x15_19 x15_20)) (.lit (.ofNat 2)) (.ite (.and x15_15 (.and x15_19 (.and x15_23 x15_25))) (.lit (.ofNat 3)) (.ite (.and x15_15 (.and x15_19 (.and x15_23 (.and x15_30 x15_32)))) (.lit (.ofNat 4)) (.ite (.and x15_15 (.and x15_19 (.and x15_23 (.and x15_30 (.and (.not x15_32) (.cmp .eql x15_12 (.lit (.ofNat 32)))))))) (.lit (.ofNat 5)) (.lit (.negSucc 0)))))))) (.lit (.ofNat 0))
def x15_60 : X := .bin .quo .i64 (.iv 3) (.lit (.ofNat 8192))
def x15_61 : X := .cmp .eql x15_60 (.lit (.ofNat 1))
def x15_62 : X := .not x15_61
def x15_63 : X := .cmp .eql x15_60 (.lit (.ofNat 2))
def x15_65 : X := .not x15_63
def x15_66 : X := .cmp .eql x15_60 (.lit (.ofNat 4))
def x15_69 : X := .not x15_66
def x15_70 : X := .cmp .eql x15_60 (.lit (.ofNat 8))
def x15_74 : X := .not x15_70
def x15_75 : X := .cmp .eql x15_60 (.lit (.ofNat 16))
def x15_93 : X := .cmp .geq (.ite x15_61 (.lit (.ofNat 0)) (.ite (.and x15_62 x15_63) (.lit (.ofNat 1)) (.ite (.and x15_62 (.and x15_65 x15_66)) (.lit (.ofNat 2)) (.ite (.and x15_62 (.and x15_65 (.and x15_69 x15_70))) (.lit (.ofNat 3)) (.ite (.and x15_62 (.and x15_65 (.and x15_69 (.and x15_74 x15_75)))) (.lit (.ofNat 4)) (.ite (.and x15_62 (.and x15_65 (.and x15_69 (.and x15_74 (.and (.not x15_75) (.cmp .eql x15_60 (.lit (.ofNat 32)))))))) (.lit (.ofNat 5)) (.lit (.negSucc 0)))))))) (.lit (.ofNat 0))
def x15_102 : X := .or (.or (.not (.and x15_53 (.cmp .eql (.bin .rem .i64 (.iv 2) (.lit (.ofNat 16384))) (.lit (.ofNat 0))))) (.not (.and x15_93 (.cmp .eql (.bin .rem .i64 (.iv 3) (.lit (.ofNat 8192))) (.lit (.ofNat 0)))))) (.and (.bv 8) (.cmp .neq (.iv 3) (.lit (.ofNat 8192))))
def x15_118 : X := .ite (.or x15_9 (.or x15_102 (.or (.or (.cmp .lss (.iv 1) (.lit (.ofNat 0))) (.cmp .gtr (.iv 1) (.lit (.ofNat 15)))) (.and (.not (.bv 7)) (.cmp .neq (.iv 1) (.lit (.ofNat 0))))))) (.ite x15_9 (.lit (.ofNat 6)) (.ite x15_102 (.lit (.ofNat 5)) (.lit (.ofNat 1)))) (.lit (.ofNat 0))
def x15_119 : X := .cmp .neq x15_118 (.lit (.ofNat 0))
def x15_121 : X := .not x15_119
def v15 : ST := .tup [.agg [.ci .i64 (.ite x15_119 (.lit (.ofNat 0)) (.iv 0)), .cb (.and x15_121 (.bv 6)), .cb (.and x15_121 (.bv 5)), .ci .u8 (.lit (.ofNat 0)), .ci .u8 (.lit (.ofNat 0)), .ci .u8 (.ite x15_119 (.lit (.ofNat 0)) (.lit (.ofNat 12))), .ci .u8 (.lit (.ofNat 0)), .ci .u8 (.lit (.ofNat 0)), .ci .u8 (.lit (.ofNat 0)), .ci .i64 (.ite x15_119 (.lit (.ofNat 0)) (.lit (.negSucc 1))), .ci .u8 (.lit (.ofNat 0)), .ci .u8 (.lit (.ofNat 0)), .ci .u8 (.lit (.ofNat 0)), .ci .u8 (.lit (.ofNat 0)), .ci .u8 (.lit (.ofNat 0)), .ci .u8 (.lit (.ofNat 0)), .ci .u8 (.lit (.ofNat 0)), .ci .u8 (.lit (.ofNat 0)), .ci .u8 (.lit (.ofNat 0)), .ci .u8 (.lit (.ofNat 0)), .ci .u8 (.lit (.ofNat 0)), .ci .u8 (.lit (.ofNat 0)), .ci .u8 (.lit (.ofNat 0)), .cb (.bl false), .cb (.bl false), .cb (.bl false), .ci .i64 (.lit (.ofNat 0))], .c (.ci .i64 (.ite x15_119 x15_118 (.lit (.ofNat 0))))]
def ss15 : List SV := [.agg [.ci .i64 (.iv 0), .ci .i64 (.iv 1), .ci .i64 (.iv 2), .ci .i64 (.iv 3), .cb (.bv 4), .cb (.bv 5), .cb (.bv 6), .cb (.bv 7), .cb (.bv 8)]]
def ks15 : List LK := [.i .i64, .i .i64, .i .i64, .i .i64, .b, .b, .b, .b, .b]
theorem args15 : argTs Try.prog Try.f15.params.toList 0 = some (ss15, ks15) := by kernel_rfl
theorem tree15 : tree Try.prog 12 (sumsIn sums9) 300 15 ss15 bare 0 ⟨ks15.map LK.rg, []⟩ = .leaf v15 := by kernel_rfl
def sums15 : List Sm := ⟨15, ss15, ks15, v15⟩ :: sums9
theorem sok15 : SumsOk Try.prog sums15 := sums_cons mixed sok9 args15 tree15 (by kernel_rfl)
def v13 : ST := .v (.agg [.ci .i64 (.iv 0), .cb (.bl false), .cb (.bl false), .ci .u8 (.lit (.ofNat 0)), .ci .u8 (.lit (.ofNat 0)), .ci .u8 (.lit (.ofNat 12)), .ci .u8 (.lit (.ofNat 0)), .ci .u8 (.lit (.ofNat 0)), .ci .u8 (.lit (.ofNat 0)), .ci .i64 (.lit (.negSucc 1)), .ci .u8 (.lit (.ofNat 0)), .ci .u8 (.lit (.ofNat 0)), .ci .u8 (.lit (.ofNat 0)), .ci .u8 (.lit (.ofNat 0)), .ci .u8 (.lit (.ofNat 0)), .ci .u8 (.lit (.ofNat 0)), .ci .u8 (.lit (.ofNat 0)), .ci .u8 (.lit (.ofNat 0)), .ci .u8 (.lit (.ofNat 0)), .ci .u8 (.lit (.ofNat 0)), .ci .u8 (.lit (.ofNat 0)), .ci .u8 (.lit (.ofNat 0)), .ci .u8 (.lit (.ofNat 0)), .cb (.bl false), .cb (.bl false), .cb (.bl false), .ci .i64 (.lit (.ofNat 0))])
def ss13 : List SV := [.c (.ci .i64 (.iv 0))]
def ks13 : List LK := [.i .i64]
theorem args13 : argTs Try.prog Try.f13.params.toList 0 = some (ss13, ks13) := by kernel_rfl
theorem tree13 : tree Try.prog 12 (sumsIn sums15) 300 13 ss13 bare 0 ⟨ks13.map LK.rg, []⟩ = .leaf v13 := by kernel_rfl
def sums13 : List Sm := ⟨13, ss13, ks13, v13⟩ :: sums15
theorem sok13 : SumsOk Try.prog sums13 := sums_cons mixed sok15 args13 tree13 (by kernel_rfl)
def v10 : ST := .v (.c (.cb (.bl true)))
def ss10 : List SV := []
def ks10 : List LK := []
theorem args10 : argTs Try.prog Try.f10.params.toList 0 = some (ss10, ks10) := by kernel_rfl
theorem tree10 : tree Try.prog 12 (sumsIn sums13) 300 10 ss10 bare 0 ⟨ks10.map LK.rg, []⟩ = .leaf v10 := by kernel_rfl
def sums10 : List Sm := ⟨10, ss10, ks10, v10⟩ :: sums13
theorem sok10 : SumsOk Try.prog sums10 := sums_cons mixed sok13 args10 tree10 (by kernel_rfl)
def x14_30 : X := .not (.or (.and (.cmp .geq (.iv 0) (.lit (.ofNat 0))) (.cmp .leq (.iv 0) (.lit (.ofNat 4)))) (.cmp .eql (.iv 0) (.lit (.ofNat 7))))
def x14_37 : X := .ite (.cmp .gtr (.iv 5) (.iv 3)) (.iv 5) (.iv 3)
def x14_39 : X := .ite (.cmp .gtr (.iv 6) x14_37) (.iv 6) x14_37
def x14_41 : X := .ite (.cmp .gtr (.iv 7) x14_39) (.iv 7) x14_39
def x14_55 : X := .or (.or (.or (.or (.cmp .neq (.ite x14_30 (.ite x14_30 (.lit (.ofNat 6)) (.lit (.ofNat 1))) (.lit (.ofNat 0))) (.lit (.ofNat 0))) (.cmp .geq (.ite (.cmp .gtr (.iv 8) x14_41) (.iv 8) x14_41) (.lit (.ofNat 32)))) (.cmp .geq (.iv 4) (.lit (.ofNat 5)))) (.cmp .lss (.iv 26) (.lit (.ofNat 0)))) (.cmp .gtr (.iv 26) (.lit (.ofNat 100)))
def x14_56 : X := .cmp .neq (.iv 0) (.lit (.ofNat 4))
def x14_60 : X := .or x14_55 (.or x14_56 (.not (.bv 27)))
def x14_63 : X := .cmp .geq (.iv 26) (.lit (.ofNat 8))
def x14_68 : X := .ite (.or (.cmp .eql (.iv 22) (.lit (.ofNat 0))) (.bv 23)) (.iv 21) (.bin .sub .u8 (.iv 22) (.lit (.ofNat 1)))
def x14_81 : X := .bin .add .i64 (.iv 26) (.lit (.ofNat 1))
def v14 : ST := .tup [.agg [.ci .i64 (.iv 0), .cb (.bv 1), .cb (.bv 2), .ci .u8 (.iv 3), .ci .u8 (.iv 4), .ci .u8 (.iv 5), .ci .u8 (.iv 6), .ci .u8 (.iv 7), .ci .u8 (.iv 8), .ci .i64 (.iv 9), .ci .u8 (.iv 10), .ci .u8 (.iv 11), .ci .u8 (.iv 12), .ci .u8 (.iv 13), .ci .u8 (.iv 14), .ci .u8 (.iv 15), .ci .u8 (.iv 16), .ci .u8 (.iv 17), .ci .u8 (.iv 18), .ci .u8 (.iv 19), .ci .u8 (.iv 20), .ci .u8 (.iv 21), .ci .u8 (.ite x14_60 (.iv 22) (.ite x14_63 x14_68 (.iv 22))), .cb (.ite x14_60 (.bv 23) (.and (.not x14_63) (.bv 23))), .cb (.bv 24), .cb (.ite x14_60 (.bv 25) (.ite x14_63 (.or (.bv 25) (.and (.cmp .eql x14_68 (.lit (.ofNat 0))) (.bv 24))) (.bv 25))), .ci .i64 (.ite x14_60 (.ite x14_55 (.iv 26) (.ite x14_56 (.iv 26) (.ite (.cmp .lss (.lit (.ofNat 100)) x14_81) (.lit (.ofNat 100)) x14_81))) (.lit (.ofNat 0)))], .c (.ci .i64 (.ite x14_60 (.ite x14_55 (.lit (.ofNat 1)) (.lit (.ofNat 0))) (.lit (.ofNat 0))))]
def ss14 : List SV := [.agg [.ci .i64 (.iv 0), .cb (.bv 1), .cb (.bv 2), .ci .u8 (.iv 3), .ci .u8 (.iv 4), .ci .u8 (.iv 5), .ci .u8 (.iv 6), .ci .u8 (.iv 7), .ci .u8 (.iv 8), .ci .i64 (.iv 9), .ci .u8 (.iv 10), .ci .u8 (.iv 11), .ci .u8 (.iv 12), .ci .u8 (.iv 13), .ci .u8 (.iv 14), .ci .u8 (.iv 15), .ci .u8 (.iv 16), .ci .u8 (.iv 17), .ci .u8 (.iv 18), .ci .u8 (.iv 19), .ci .u8 (.iv 20), .ci .u8 (.iv 21), .ci .u8 (.iv 22), .cb (.bv 23), .cb (.bv 24), .cb (.bv 25), .ci .i64 (.iv 26)], .c (.cb (.bv 27))]
def ks14 : List LK := [.i .i64, .b, .b, .i .u8, .i .u8, .i .u8, .i .u8, .i .u8, .i .u8, .i .i64, .i .u8, .i .u8, .i .u8, .i .u8, .i .u8, .i .u8, .i .u8, .i .u8, .i .u8, .i .u8, .i .u8, .i .u8, .i .u8, .b, .b, .b, .i .i64, .b]
theorem args14 : argTs Try.prog Try.f14.params.toList 0 = some (ss14, ks14) := by kernel_rfl
theorem tree14 : tree Try.prog 12 (sumsIn sums10) 300 14 ss14 bare 0 ⟨ks14.map LK.rg, []⟩ = .leaf v14 := by kernel_rfl
def sums14 : List Sm := ⟨14, ss14, ks14, v14⟩ :: sums10
theorem sok14 : SumsOk Try.prog sums14 := sums_cons mixed sok10 args14 tree14 (by kernel_rfl)
def x12_2 : X := .cmp .eql (.iv 0) (.lit (.ofNat 1))
def x12_4 : X := .cmp .eql (.iv 0) (.lit (.ofNat 7))
def x12_13 : X := .bin .and .u8 (.iv 5) (.lit (.ofNat 3))
def v12 : ST := .v (.c (.ci .i64 (.ite (.or x12_2 (.or x12_4 (.or (.bv 2) (.cmp .eql (.iv 0) (.lit (.ofNat 4)))))) (.ite x12_2 (.ite (.cmp .eql x12_13 (.lit (.ofNat 0))) (.lit (.ofNat 2)) (.ite (.cmp .eql x12_13 (.lit (.ofNat 1))) (.lit (.ofNat 3)) (.ite (.cmp .eql x12_13 (.lit (.ofNat 2))) (.lit (.ofNat 1)) (.lit (.ofNat 0))))) (.ite x12_4 (.bin .add .i64 (.lit (.ofNat 2)) (.bin .and .u8 (.bin .shr .u8 (.iv 10) (.lit (.ofNat 4))) (.lit (.ofNat 1)))) (.ite (.bv 2) (.lit (.ofNat 4)) (.bin .sub .i64 (.lit (.ofNat 1)) (.bin .and .u8 (.iv 12) (.lit (.ofNat 1))))))) (.ite (.bv 1) (.lit (.ofNat 1)) (.lit (.ofNat 0))))))
def ss12 : List SV := [.agg [.ci .i64 (.iv 0), .cb (.bv 1), .cb (.bv 2), .ci .u8 (.iv 3), .ci .u8 (.iv 4), .ci .u8 (.iv 5), .ci .u8 (.iv 6), .ci .u8 (.iv 7), .ci .u8 (.iv 8), .ci .i64 (.iv 9), .ci .u8 (.iv 10), .ci .u8 (.iv 11), .ci .u8 (.iv 12), .ci .u8 (.iv 13), .ci .u8 (.iv 14), .ci .u8 (.iv 15), .ci .u8 (.iv 16), .ci .u8 (.iv 17), .ci .u8 (.iv 18), .ci .u8 (.iv 19), .ci .u8 (.iv 20), .ci .u8 (.iv 21), .ci .u8 (.iv 22), .cb (.bv 23), .cb (.bv 24), .cb (.bv 25), .ci .i64 (.iv 26)]]
def ks12 : List LK := [.i .i64, .b, .b, .i .u8, .i .u8, .i .u8, .i .u8, .i .u8, .i .u8, .i .i64, .i .u8, .i .u8, .i .u8, .i .u8, .i .u8, .i .u8, .i .u8, .i .u8, .i .u8, .i .u8, .i .u8, .i .u8, .i .u8, .b, .b, .b, .i .i64]
theorem args12 : argTs Try.prog Try.f12.params.toList 0 = some (ss12, ks12) := by kernel_rfl
theorem tree12 : tree Try.prog 12 (sumsIn sums14) 300 12 ss12 bare 0 ⟨ks12.map LK.rg, []⟩ = .leaf v12 := by kernel_rfl
def sums12 : List Sm := ⟨12, ss12, ks12, v12⟩ :: sums14
theorem sok12 : SumsOk Try.prog sums12 := sums_cons mixed sok14 args12 tree12 (by kernel_rfl)
def ss8 : List SV := [.agg [.ci .i64 (.iv 0), .cb (.bv 1), .cb (.bv 2), .ci .u8 (.iv 3), .ci .u8 (.iv 4), .ci .u8 (.iv 5), .ci .u8 (.iv 6), .ci .u8 (.iv 7), .ci .u8 (.iv 8), .ci .i64 (.iv 9), .ci .u8 (.iv 10), .ci .u8 (.iv 11), .ci .u8 (.iv 12), .ci .u8 (.iv 13), .ci .u8 (.iv 14), .ci .u8 (.iv 15), .ci .u8 (.iv 16), .ci .u8 (.iv 17), .ci .u8 (.iv 18), .ci .u8 (.iv 19), .ci .u8 (.iv 20), .ci .u8 (.iv 21), .ci .u8 (.iv 22), .cb (.bv 23), .cb (.bv 24), .cb (.bv 25), .ci .i64 (.iv 26)], .c (.xs 54198714210720287757989138915751634950206694428928 (.lit 0) (.iv 27) (.iv 28))]
def ks8 : List LK := [.i .i64, .b, .b, .i .u8, .i .u8, .i .u8, .i .u8, .i .u8, .i .u8, .i .i64, .i .u8, .i .u8, .i .u8, .i .u8, .i .u8, .i .u8, .i .u8, .i .u8, .i .u8, .i .u8, .i .u8, .i .u8, .i .u8, .b, .b, .b, .i .i64, .i .i64, .i .i64]
def rs8 : List RowV := [(54198714210720287757989138915751634950206694428928, 27)]
theorem args8 : argRs Try.prog Try.f8.params.toList 0 0 = some (ss8, ks8, rs8) := by kernel_rfl
def T (l : List (Nat × Ann)) (M : Go.Sx.Mode) (K : Known) : Prop := vcF Try.prog 0 (sumsIn sums12) 300 2 l M 8 ss8 K = true
def V (K : Known) : Prop := X.prove 20 60 K (.bl false) = true
def c_0 : X := .cmp .lss (.iv 26) (.lit (.ofNat 0))
def c_1 : X := .cmp .gtr (.iv 26) (.lit (.ofNat 100))
def c_2 : X := .cmp .geq (.iv 4) (.lit (.ofNat 5))
def c_3 : X := .cmp .geq (.ite (.cmp .gtr (.iv 8) (.ite (.cmp .gtr (.iv 7) (.ite (.cmp .gtr (.iv 6) (.ite (.cmp .gtr (.iv 5) (.iv 3)) (.iv 5) (.iv 3))) (.iv 6) (.ite (.cmp .gtr (.iv 5) (.iv 3)) (.iv 5) (.iv 3)))) (.iv 7) (.ite (.cmp .gtr (.iv 6) (.ite (.cmp .gtr (.iv 5) (.iv 3)) (.iv 5) (.iv 3))) (.iv 6) (.ite (.cmp .gtr (.iv 5) (.iv 3)) (.iv 5) (.iv 3))))) (.iv 8) (.ite (.cmp .gtr (.iv 7) (.ite (.cmp .gtr (.iv 6) (.ite (.cmp .gtr (.iv 5) (.iv 3)) (.iv 5) (.iv 3))) (.iv 6) (.ite (.cmp .gtr (.iv 5) (.iv 3)) (.iv 5) (.iv 3)))) (.iv 7) (.ite (.cmp .gtr (.iv 6) (.ite (.cmp .gtr (.iv 5) (.iv 3)) (.iv 5) (.iv 3))) (.iv 6) (.ite (.cmp .gtr (.iv 5) (.iv 3)) (.iv 5) (.iv 3))))) (.lit (.ofNat 32))
def c_4 : X := .cmp .gtr (.iv 5) (.iv 3)
def c_5 : X := .cmp .gtr (.iv 6) (.iv 5)
def c_6 : X := .cmp .gtr (.iv 7) (.iv 6)
def c_7 : X := .cmp .gtr (.iv 8) (.iv 7)
def c_8 : X := .cmp .geq (.iv 8) (.lit (.ofNat 32))
def c_9 : X := .cmp .geq (.iv 7) (.lit (.ofNat 32))
def c_10 : X := .cmp .gtr (.iv 8) (.iv 6)
def c_11 : X := .cmp .geq (.iv 6) (.lit (.ofNat 32))
def c_12 : X := .cmp .gtr (.iv 7) (.iv 5)
def c_13 : X := .cmp .gtr (.iv 8) (.iv 5)
def c_14 : X := .cmp .geq (.iv 5) (.lit (.ofNat 32))
def c_15 : X := .cmp .gtr (.iv 6) (.iv 3)
def c_16 : X := .cmp .gtr (.iv 7) (.iv 3)
def c_17 : X := .cmp .gtr (.iv 8) (.iv 3)
def c_18 : X := .cmp .geq (.iv 3) (.lit (.ofNat 32))
def c_19 : X := .cmp .lss (.iv 0) (.lit (.ofNat 0))
def c_20 : X := .cmp .gtr (.iv 0) (.lit (.ofNat 7))
def c_21 : X := .cmp .eql (.iv 0) (.lit (.ofNat 5))
def c_22 : X := .cmp .eql (.iv 0) (.lit (.ofNat 6))
def c_23 : X := .cmp .eql (.iv 0) (.lit (.ofNat 0))
def c_24 : X := .cmp .eql (.iv 0) (.lit (.ofNat 1))
def c_25 : X := .cmp .eql (.iv 0) (.lit (.ofNat 2))
def c_26 : X := .cmp .eql (.iv 0) (.lit (.ofNat 3))
def c_27 : X := .cmp .eql (.iv 0) (.lit (.ofNat 4))
def c_28 : X := .cmp .eql (.iv 0) (.lit (.ofNat 7))
def K_0 : Known := addRows rs8 ⟨ks8.map LK.rg, []⟩
def K_1 : Known := K_0.assume c_0 true
def K_2 : Known := K_0.assume c_0 false
def K_3 : Known := K_2.assume c_1 true
def K_4 : Known := K_2.assume c_1 false
def K_5 : Known := K_4.assume c_2 true
def K_6 : Known := K_4.assume c_2 false
def K_7 : Known := K_6.assume c_3 true
def K_8 : Known := K_7.assume c_4 true
def K_9 : Known := K_8.assume c_5 true
def K_10 : Known := K_9.assume c_6 true
def K_11 : Known := K_10.assume c_7 true
def K_12 : Known := K_11.assume c_8 true
def K_13 : Known := K_10.assume c_7 false
def K_14 : Known := K_13.assume c_9 true
def K_15 : Known := K_9.assume c_6 false
def K_16 : Known := K_15.assume c_10 true
def K_17 : Known := K_16.assume c_8 true
def K_18 : Known := K_15.assume c_10 false
def K_19 : Known := K_18.assume c_11 true
def K_20 : Known := K_8.assume c_5 false
def K_21 : Known := K_20.assume c_12 true
def K_22 : Known := K_21.assume c_7 true
def K_23 : Known := K_22.assume c_8 true
def K_24 : Known := K_21.assume c_7 false
def K_25 : Known := K_24.assume c_9 true
def K_26 : Known := K_20.assume c_12 false
def K_27 : Known := K_26.assume c_13 true
def K_28 : Known := K_27.assume c_8 true
def K_29 : Known := K_26.assume c_13 false
def K_30 : Known := K_29.assume c_14 true
def K_31 : Known := K_7.assume c_4 false
def K_32 : Known := K_31.assume c_15 true
def K_33 : Known := K_32.assume c_6 true
def K_34 : Known := K_33.assume c_7 true
def K_35 : Known := K_34.assume c_8 true
def K_36 : Known := K_33.assume c_7 false
def K_37 : Known := K_36.assume c_9 true
def K_38 : Known := K_32.assume c_6 false
def K_39 : Known := K_38.assume c_10 true
def K_40 : Known := K_39.assume c_8 true
def K_41 : Known := K_38.assume c_10 false
def K_42 : Known := K_41.assume c_11 true
def K_43 : Known := K_31.assume c_15 false
def K_44 : Known := K_43.assume c_16 true
def K_45 : Known := K_44.assume c_7 true
def K_46 : Known := K_45.assume c_8 true
def K_47 : Known := K_44.assume c_7 false
def K_48 : Known := K_47.assume c_9 true
def K_49 : Known := K_43.assume c_16 false
def K_50 : Known := K_49.assume c_17 true
def K_51 : Known := K_50.assume c_8 true
def K_52 : Known := K_49.assume c_17 false
def K_53 : Known := K_52.assume c_18 true
def K_54 : Known := K_6.assume c_3 false
def K_55 : Known := K_54.assume c_18 true
def K_56 : Known := K_54.assume c_18 false
def K_57 : Known := K_56.assume c_14 true
def K_58 : Known := K_56.assume c_14 false
def K_59 : Known := K_58.assume c_11 true
def K_60 : Known := K_58.assume c_11 false
def K_61 : Known := K_60.assume c_9 true
def K_62 : Known := K_60.assume c_9 false
def K_63 : Known := K_62.assume c_8 true
def K_64 : Known := K_62.assume c_8 false
def K_65 : Known := K_64.assume c_19 true
def K_66 : Known := K_64.assume c_19 false
def K_67 : Known := K_66.assume c_20 true
def K_68 : Known := K_66.assume c_20 false
def K_69 : Known := K_68.assume c_21 true
def K_70 : Known := K_68.assume c_21 false
def K_71 : Known := K_70.assume c_22 true
def K_72 : Known := K_70.assume c_22 false
def K_73 : Known := K_72.assume c_23 true
def K_74 : Known := K_72.assume c_23 false
def K_75 : Known := K_74.assume c_24 true
def K_76 : Known := K_74.assume c_24 false
def K_77 : Known := K_76.assume c_25 true
def K_78 : Known := K_76.assume c_25 false
def K_79 : Known := K_78.assume c_26 true
def K_80 : Known := K_78.assume c_26 false
def K_81 : Known := K_80.assume c_27 true
def K_82 : Known := K_80.assume c_27 false
def K_83 : Known := K_82.assume c_28 true
def K_84 : Known := K_82.assume c_28 false
theorem leaf_1 : T [] none K_1 := by unfold T; kernel_rfl
theorem leaf_3 : T [] none K_3 := by unfold T; kernel_rfl
theorem leaf_5 : T [] none K_5 := by unfold T; kernel_rfl
theorem leaf_12 : T [] none K_12 := by unfold T; kernel_rfl
theorem leaf_14 : T [] none K_14 := by unfold T; kernel_rfl
theorem leaf_17 : T [] none K_17 := by unfold T; kernel_rfl
theorem leaf_19 : T [] none K_19 := by unfold T; kernel_rfl
theorem leaf_23 : T [] none K_23 := by unfold T; kernel_rfl
theorem leaf_25 : T [] none K_25 := by unfold T; kernel_rfl
theorem leaf_28 : T [] none K_28 := by unfold T; kernel_rfl
theorem leaf_30 : T [] none K_30 := by unfold T; kernel_rfl
theorem leaf_35 : T [] none K_35 := by unfold T; kernel_rfl
theorem leaf_37 : T [] none K_37 := by unfold T; kernel_rfl
theorem leaf_40 : T [] none K_40 := by unfold T; kernel_rfl
theorem leaf_42 : T [] none K_42 := by unfold T; kernel_rfl
theorem leaf_46 : T [] none K_46 := by unfold T; kernel_rfl
theorem leaf_48 : T [] none K_48 := by unfold T; kernel_rfl
theorem leaf_51 : T [] none K_51 := by unfold T; kernel_rfl
theorem leaf_53 : T [] none K_53 := by unfold T; kernel_rfl
theorem leaf_55 : V K_55 := by unfold V; kernel_rfl
theorem leaf_57 : V K_57 := by unfold V; kernel_rfl
theorem leaf_59 : V K_59 := by unfold V; kernel_rfl
theorem leaf_61 : V K_61 := by unfold V; kernel_rfl
theorem leaf_63 : V K_63 := by unfold V; kernel_rfl
theorem leaf_65 : T [] none K_65 := by unfold T; kernel_rfl
theorem leaf_67 : T [] none K_67 := by unfold T; kernel_rfl
theorem leaf_69 : T [] none K_69 := by unfold T; kernel_rfl
theorem leaf_71 : T [] none K_71 := by unfold T; kernel_rfl
def an_0 : Ann := ⟨[0, 3, 11, 12, 13, 14, 6, 7, 8, 9, 10, 15, 16, 17, 18, 19, 20, 21, 22, 23, 24, 25, 26, 27, 28, 29, 30, 31, 32, 33, 34, 35, 36, 37, 38, 39, 40, 41, 42, 43, 44, 45, 46, 47, 48, 49, 50, 51, 52, 53, 54, 55, 56, 57, 58, 59, 60, 61, 62, 63, 64, 65, 66, 67, 68, 69, 70, 71, 72, 73, 74, 75, 76, 77, 78, 79, 80, 81, 82, 83, 84, 85, 86, 87, 88, 89, 90, 91, 92, 93, 94, 95, 96, 97, 98, 99, 100], [3], [(4, .lit (.ofNat 0))], false, [], false, [some (0, 9223372036854775807), some (0, 9223372036854775807), some (0, 60), none, none, some (0, 31), some (0, 4), some (0, 31), some (0, 31), some (0, 31), some (0, 31), some (-9223372036854775808, 9223372036854775807), some (0, 255), some (0, 255), some (0, 255), some (0, 255), some (0, 255), some (0, 255), some (0, 255), some (0, 255), some (0, 255), some (0, 255), some (0, 255), some (0, 255), some (0, 255), none, none, none, some (0, 100)], [(.fb 3468717709486098416511304890608104636813228443551454 (.unit), true), (.cmp .eql (.iv 0) (.fi 3468717709486098416511304890608104636813228443551455 (.unit)), true), (.cmp .leq (.iv 0) (.iv 1), true)], .bin .sub .i64 (.lit (.ofNat 61)) (.iv 2)⟩
theorem leaf_73_0 : T [(58, an_0)] (some []) K_73 := by unfold T; kernel_rfl
theorem leaf_73_1 : T [(58, an_0)] none K_73 := by unfold T; kernel_rfl
def an_1 : Ann := ⟨[0, 3, 11, 12, 13, 14, 6, 7, 8, 9, 10, 15, 16, 17, 18, 19, 20, 21, 22, 23, 24, 25, 26, 27, 28, 29, 30, 31, 32, 33, 34, 35, 36, 37, 38, 39, 40, 41, 42, 43, 44, 45, 46, 47, 48, 49, 50, 51, 52, 53, 54, 55, 56, 57, 58, 59, 60, 61, 62, 63, 64, 65, 66, 67, 68, 69, 70, 71, 72, 73, 74, 75, 76, 77, 78, 79, 80, 81, 82, 83, 84, 85, 86, 87, 88, 89, 90, 91, 92, 93, 94, 95, 96, 97, 98, 99, 100], [3], [(4, .lit (.ofNat 1))], false, [(.cmp .lss (.wrap .u16 (.fi 3468717709486098416511304890608104636813228443551428 (.iv 2))) (.lit (.ofNat 32768)), 0), (.bin .and .u16 (.bin .shr .u16 (.wrap .u16 (.fi 3468717709486098416511304890608104636813228443551428 (.iv 2))) (.lit (.ofNat 13))) (.lit (.ofNat 3)), 4), (.cmp .eql (.wrap .i64 (.fi 3468717709486098416511304890608104636813228443551430 (.iv 2))) (.bin .add .i64 (.iv 11) (.lit (.ofNat 1))), 0), (.cmp .gtr (.bin .and .u8 (.wrap .u8 (.fi 3468717709486098416511304890608104636813228443551429 (.iv 2))) (.lit (.ofNat 128))) (.lit (.ofNat 0)), 0), (.iv 6, 5)], false, [some (0, 9223372036854775807), some (0, 9223372036854775807), some (0, 60), none, none, some (0, 31), some (0, 4), some (0, 31), some (0, 31), some (0, 31), some (0, 31), some (-9223372036854775808, 9223372036854775807), some (0, 255), some (0, 255), some (0, 255), some (0, 255), some (0, 255), some (0, 255), some (0, 255), some (0, 255), some (0, 255), some (0, 255), some (0, 255), some (0, 255), some (0, 255), none, none, none, some (0, 100)], [(.fb 3468717709486098416511304890608104636813228443551454 (.unit), true), (.cmp .eql (.iv 0) (.fi 3468717709486098416511304890608104636813228443551455 (.unit)), true), (.cmp .leq (.iv 0) (.iv 1), true)], .bin .sub .i64 (.lit (.ofNat 61)) (.iv 2)⟩
theorem leaf_75_0 : T [(58, an_1)] (some [1, 3, 1, 1, 4]) K_75 := by unfold T; kernel_rfl
theorem leaf_75_1 : T [(58, an_1)] (some [1, 3, 1, 1, 3]) K_75 := by unfold T; kernel_rfl
theorem leaf_75_2 : T [(58, an_1)] (some [1, 3, 1, 1, 2]) K_75 := by unfold T; kernel_rfl
theorem leaf_75_3 : T [(58, an_1)] (some [1, 3, 1, 1, 1]) K_75 := by unfold T; kernel_rfl
theorem leaf_75_4 : T [(58, an_1)] (some [1, 3, 1, 1, 0]) K_75 := by unfold T; kernel_rfl
theorem leaf_75_5 : T [(58, an_1)] (some [1, 3, 1, 0, 4]) K_75 := by unfold T; kernel_rfl
theorem leaf_75_6 : T [(58, an_1)] (some [1, 3, 1, 0, 3]) K_75 := by unfold T; kernel_rfl
theorem leaf_75_7 : T [(58, an_1)] (some [1, 3, 1, 0, 2]) K_75 := by unfold T; kernel_rfl
theorem leaf_75_8 : T [(58, an_1)] (some [1, 3, 1, 0, 1]) K_75 := by unfold T; kernel_rfl
theorem leaf_75_9 : T [(58, an_1)] (some [1, 3, 1, 0, 0]) K_75 := by unfold T; kernel_rfl
theorem leaf_75_10 : T [(58, an_1)] (some [1, 3, 0, 1, 4]) K_75 := by unfold T; kernel_rfl
theorem leaf_75_11 : T [(58, an_1)] (some [1, 3, 0, 1, 3]) K_75 := by unfold T; kernel_rfl
theorem leaf_75_12 : T [(58, an_1)] (some [1, 3, 0, 1, 2]) K_75 := by unfold T; kernel_rfl
theorem leaf_75_13 : T [(58, an_1)] (some [1, 3, 0, 1, 1]) K_75 := by unfold T; kernel_rfl
theorem leaf_75_14 : T [(58, an_1)] (some [1, 3, 0, 1, 0]) K_75 := by unfold T; kernel_rfl
theorem leaf_75_15 : T [(58, an_1)] (some [1, 3, 0, 0, 4]) K_75 := by unfold T; kernel_rfl
theorem leaf_75_16 : T [(58, an_1)] (some [1, 3, 0, 0, 3]) K_75 := by unfold T; kernel_rfl
theorem leaf_75_17 : T [(58, an_1)] (some [1, 3, 0, 0, 2]) K_75 := by unfold T; kernel_rfl
theorem leaf_75_18 : T [(58, an_1)] (some [1, 3, 0, 0, 1]) K_75 := by unfold T; kernel_rfl
theorem leaf_75_19 : T [(58, an_1)] (some [1, 3, 0, 0, 0]) K_75 := by unfold T; kernel_rfl
theorem leaf_75_20 : T [(58, an_1)] (some [1, 2, 1, 1, 4]) K_75 := by unfold T; kernel_rfl
theorem leaf_75_21 : T [(58, an_1)] (some [1, 2, 1, 1, 3]) K_75 := by unfold T; kernel_rfl
theorem leaf_75_22 : T [(58, an_1)] (some [1, 2, 1, 1, 2]) K_75 := by unfold T; kernel_rfl
theorem leaf_75_23 : T [(58, an_1)] (some [1, 2, 1, 1, 1]) K_75 := by unfold T; kernel_rfl
theorem leaf_75_24 : T [(58, an_1)] (some [1, 2, 1, 1, 0]) K_75 := by unfold T; kernel_rfl
theorem leaf_75_25 : T [(58, an_1)] (some [1, 2, 1, 0, 4]) K_75 := by unfold T; kernel_rfl
theorem leaf_75_26 : T [(58, an_1)] (some [1, 2, 1, 0, 3]) K_75 := by unfold T; kernel_rfl
theorem leaf_75_27 : T [(58, an_1)] (some [1, 2, 1, 0, 2]) K_75 := by unfold T; kernel_rfl
theorem leaf_75_28 : T [(58, an_1)] (some [1, 2, 1, 0, 1]) K_75 := by unfold T; kernel_rfl
theorem leaf_75_29 : T [(58, an_1)] (some [1, 2, 1, 0, 0]) K_75 := by unfold T; kernel_rfl
theorem leaf_75_30 : T [(58, an_1)] (some [1, 2, 0, 1, 4]) K_75 := by unfold T; kernel_rfl
theorem leaf_75_31 : T [(58, an_1)] (some [1, 2, 0, 1, 3]) K_75 := by unfold T; kernel_rfl
theorem leaf_75_32 : T [(58, an_1)] (some [1, 2, 0, 1, 2]) K_75 := by unfold T; kernel_rfl
theorem leaf_75_33 : T [(58, an_1)] (some [1, 2, 0, 1, 1]) K_75 := by unfold T; kernel_rfl
theorem leaf_75_34 : T [(58, an_1)] (some [1, 2, 0, 1, 0]) K_75 := by unfold T; kernel_rfl
theorem leaf_75_35 : T [(58, an_1)] (some [1, 2, 0, 0, 4]) K_75 := by unfold T; kernel_rfl
theorem leaf_75_36 : T [(58, an_1)] (some [1, 2, 0, 0, 3]) K_75 := by unfold T; kernel_rfl
theorem leaf_75_37 : T [(58, an_1)] (some [1, 2, 0, 0, 2]) K_75 := by unfold T; kernel_rfl
theorem leaf_75_38 : T [(58, an_1)] (some [1, 2, 0, 0, 1]) K_75 := by unfold T; kernel_rfl
theorem leaf_75_39 : T [(58, an_1)] (some [1, 2, 0, 0, 0]) K_75 := by unfold T; kernel_rfl
theorem leaf_75_40 : T [(58, an_1)] (some [1, 1, 1, 1, 4]) K_75 := by unfold T; kernel_rfl
theorem leaf_75_41 : T [(58, an_1)] (some [1, 1, 1, 1, 3]) K_75 := by unfold T; kernel_rfl
theorem leaf_75_42 : T [(58, an_1)] (some [1, 1, 1, 1, 2]) K_75 := by unfold T; kernel_rfl
theorem leaf_75_43 : T [(58, an_1)] (some [1, 1, 1, 1, 1]) K_75 := by unfold T; kernel_rfl
theorem leaf_75_44 : T [(58, an_1)] (some [1, 1, 1, 1, 0]) K_75 := by unfold T; kernel_rfl
theorem leaf_75_45 : T [(58, an_1)] (some [1, 1, 1, 0, 4]) K_75 := by unfold T; kernel_rfl
theorem leaf_75_46 : T [(58, an_1)] (some [1, 1, 1, 0, 3]) K_75 := by unfold T; kernel_rfl
theorem leaf_75_47 : T [(58, an_1)] (some [1, 1, 1, 0, 2]) K_75 := by unfold T; kernel_rfl
theorem leaf_75_48 : T [(58, an_1)] (some [1, 1, 1, 0, 1]) K_75 := by unfold T; kernel_rfl
theorem leaf_75_49 : T [(58, an_1)] (some [1, 1, 1, 0, 0]) K_75 := by unfold T; kernel_rfl
theorem leaf_75_50 : T [(58, an_1)] (some [1, 1, 0, 1, 4]) K_75 := by unfold T; kernel_rfl
theorem leaf_75_51 : T [(58, an_1)] (some [1, 1, 0, 1, 3]) K_75 := by unfold T; kernel_rfl
theorem leaf_75_52 : T [(58, an_1)] (some [1, 1, 0, 1, 2]) K_75 := by unfold T; kernel_rfl
theorem leaf_75_53 : T [(58, an_1)] (some [1, 1, 0, 1, 1]) K_75 := by unfold T; kernel_rfl
theorem leaf_75_54 : T [(58, an_1)] (some [1, 1, 0, 1, 0]) K_75 := by unfold T; kernel_rfl
theorem leaf_75_55 : T [(58, an_1)] (some [1, 1, 0, 0, 4]) K_75 := by unfold T; kernel_rfl
theorem leaf_75_56 : T [(58, an_1)] (some [1, 1, 0, 0, 3]) K_75 := by unfold T; kernel_rfl
theorem leaf_75_57 : T [(58, an_1)] (some [1, 1, 0, 0, 2]) K_75 := by unfold T; kernel_rfl
theorem leaf_75_58 : T [(58, an_1)] (some [1, 1, 0, 0, 1]) K_75 := by unfold T; kernel_rfl
theorem leaf_75_59 : T [(58, an_1)] (some [1, 1, 0, 0, 0]) K_75 := by unfold T; kernel_rfl
theorem leaf_75_60 : T [(58, an_1)] (some [1, 0, 1, 1, 4]) K_75 := by unfold T; kernel_rfl
theorem leaf_75_61 : T [(58, an_1)] (some [1, 0, 1, 1, 3]) K_75 := by unfold T; kernel_rfl
theorem leaf_75_62 : T [(58, an_1)] (some [1, 0, 1, 1, 2]) K_75 := by unfold T; kernel_rfl
theorem leaf_75_63 : T [(58, an_1)] (some [1, 0, 1, 1, 1]) K_75 := by unfold T; kernel_rfl
theorem leaf_75_64 : T [(58, an_1)] (some [1, 0, 1, 1, 0]) K_75 := by unfold T; kernel_rfl
theorem leaf_75_65 : T [(58, an_1)] (some [1, 0, 1, 0, 4]) K_75 := by unfold T; kernel_rfl
theorem leaf_75_66 : T [(58, an_1)] (some [1, 0, 1, 0, 3]) K_75 := by unfold T; kernel_rfl
theorem leaf_75_67 : T [(58, an_1)] (some [1, 0, 1, 0, 2]) K_75 := by unfold T; kernel_rfl
theorem leaf_75_68 : T [(58, an_1)] (some [1, 0, 1, 0, 1]) K_75 := by unfold T; kernel_rfl
theorem leaf_75_69 : T [(58, an_1)] (some [1, 0, 1, 0, 0]) K_75 := by unfold T; kernel_rfl
theorem leaf_75_70 : T [(58, an_1)] (some [1, 0, 0, 1, 4]) K_75 := by unfold T; kernel_rfl
theorem leaf_75_71 : T [(58, an_1)] (some [1, 0, 0, 1, 3]) K_75 := by unfold T; kernel_rfl
theorem leaf_75_72 : T [(58, an_1)] (some [1, 0, 0, 1, 2]) K_75 := by unfold T; kernel_rfl
theorem leaf_75_73 : T [(58, an_1)] (some [1, 0, 0, 1, 1]) K_75 := by unfold T; kernel_rfl
theorem leaf_75_74 : T [(58, an_1)] (some [1, 0, 0, 1, 0]) K_75 := by unfold T; kernel_rfl
theorem leaf_75_75 : T [(58, an_1)] (some [1, 0, 0, 0, 4]) K_75 := by unfold T; kernel_rfl
theorem leaf_75_76 : T [(58, an_1)] (some [1, 0, 0, 0, 3]) K_75 := by unfold T; kernel_rfl
theorem leaf_75_77 : T [(58, an_1)] (some [1, 0, 0, 0, 2]) K_75 := by unfold T; kernel_rfl
theorem leaf_75_78 : T [(58, an_1)] (some [1, 0, 0, 0, 1]) K_75 := by unfold T; kernel_rfl
theorem leaf_75_79 : T [(58, an_1)] (some [1, 0, 0, 0, 0]) K_75 := by unfold T; kernel_rfl
theorem leaf_75_80 : T [(58, an_1)] (some [0, 3, 1, 1, 4]) K_75 := by unfold T; kernel_rfl
theorem leaf_75_81 : T [(58, an_1)] (some [0, 3, 1, 1, 3]) K_75 := by unfold T; kernel_rfl
theorem leaf_75_82 : T [(58, an_1)] (some [0, 3, 1, 1, 2]) K_75 := by unfold T; kernel_rfl
theorem leaf_75_83 : T [(58, an_1)] (some [0, 3, 1, 1, 1]) K_75 := by unfold T; kernel_rfl
theorem leaf_75_84 : T [(58, an_1)] (some [0, 3, 1, 1, 0]) K_75 := by unfold T; kernel_rfl
theorem leaf_75_85 : T [(58, an_1)] (some [0, 3, 1, 0, 4]) K_75 := by unfold T; kernel_rfl
theorem leaf_75_86 : T [(58, an_1)] (some [0, 3, 1, 0, 3]) K_75 := by unfold T; kernel_rfl
theorem leaf_75_87 : T [(58, an_1)] (some [0, 3, 1, 0, 2]) K_75 := by unfold T; kernel_rfl
theorem leaf_75_88 : T [(58, an_1)] (some [0, 3, 1, 0, 1]) K_75 := by unfold T; kernel_rfl
theorem leaf_75_89 : T [(58, an_1)] (some [0, 3, 1, 0, 0]) K_75 := by unfold T; kernel_rfl
theorem leaf_75_90 : T [(58, an_1)] (some [0, 3, 0, 1, 4]) K_75 := by unfold T; kernel_rfl
theorem leaf_75_91 : T [(58, an_1)] (some [0, 3, 0, 1, 3]) K_75 := by unfold T; kernel_rfl
theorem leaf_75_92 : T [(58, an_1)] (some [0, 3, 0, 1, 2]) K_75 := by unfold T; kernel_rfl
theorem leaf_75_93 : T [(58, an_1)] (some [0, 3, 0, 1, 1]) K_75 := by unfold T; kernel_rfl
theorem leaf_75_94 : T [(58, an_1)] (some [0, 3, 0, 1, 0]) K_75 := by unfold T; kernel_rfl
theorem leaf_75_95 : T [(58, an_1)] (some [0, 3, 0, 0, 4]) K_75 := by unfold T; kernel_rfl
theorem leaf_75_96 : T [(58, an_1)] (some [0, 3, 0, 0, 3]) K_75 := by unfold T; kernel_rfl
theorem leaf_75_97 : T [(58, an_1)] (some [0, 3, 0, 0, 2]) K_75 := by unfold T; kernel_rfl
theorem leaf_75_98 : T [(58, an_1)] (some [0, 3, 0, 0, 1]) K_75 := by unfold T; kernel_rfl
theorem leaf_75_99 : T [(58, an_1)] (some [0, 3, 0, 0, 0]) K_75 := by unfold T; kernel_rfl
theorem leaf_75_100 : T [(58, an_1)] (some [0, 2, 1, 1, 4]) K_75 := by unfold T; kernel_rfl
theorem leaf_75_101 : T [(58, an_1)] (some [0, 2, 1, 1, 3]) K_75 := by unfold T; kernel_rfl
theorem leaf_75_102 : T [(58, an_1)] (some [0, 2, 1, 1, 2]) K_75 := by unfold T; kernel_rfl
theorem leaf_75_103 : T [(58, an_1)] (some [0, 2, 1, 1, 1]) K_75 := by unfold T; kernel_rfl
theorem leaf_75_104 : T [(58, an_1)] (some [0, 2, 1, 1, 0]) K_75 := by unfold T; kernel_rfl
theorem leaf_75_105 : T [(58, an_1)] (some [0, 2, 1, 0, 4]) K_75 := by unfold T; kernel_rfl
theorem leaf_75_106 : T [(58, an_1)] (some [0, 2, 1, 0, 3]) K_75 := by unfold T; kernel_rfl
theorem leaf_75_107 : T [(58, an_1)] (some [0, 2, 1, 0, 2]) K_75 := by unfold T; kernel_rfl
theorem leaf_75_108 : T [(58, an_1)] (some [0, 2, 1, 0, 1]) K_75 := by unfold T; kernel_rfl
theorem leaf_75_109 : T [(58, an_1)] (some [0, 2, 1, 0, 0]) K_75 := by unfold T; kernel_rfl
theorem leaf_75_110 : T [(58, an_1)] (some [0, 2, 0, 1, 4]) K_75 := by unfold T; kernel_rfl
theorem leaf_75_111 : T [(58, an_1)] (some [0, 2, 0, 1, 3]) K_75 := by unfold T; kernel_rfl
theorem leaf_75_112 : T [(58, an_1)] (some [0, 2, 0, 1, 2]) K_75 := by unfold T; kernel_rfl
theorem leaf_75_113 : T [(58, an_1)] (some [0, 2, 0, 1, 1]) K_75 := by unfold T; kernel_rfl
theorem leaf_75_114 : T [(58, an_1)] (some [0, 2, 0, 1, 0]) K_75 := by unfold T; kernel_rfl
theorem leaf_75_115 : T [(58, an_1)] (some [0, 2, 0, 0, 4]) K_75 := by unfold T; kernel_rfl
theorem leaf_75_116 : T [(58, an_1)] (some [0, 2, 0, 0, 3]) K_75 := by unfold T; kernel_rfl
theorem leaf_75_117 : T [(58, an_1)] (some [0, 2, 0, 0, 2]) K_75 := by unfold T; kernel_rfl
theorem leaf_75_118 : T [(58, an_1)] (some [0, 2, 0, 0, 1]) K_75 := by unfold T; kernel_rfl
theorem leaf_75_119 : T [(58, an_1)] (some [0, 2, 0, 0, 0]) K_75 := by unfold T; kernel_rfl
theorem leaf_75_120 : T [(58, an_1)] (some [0, 1, 1, 1, 4]) K_75 := by unfold T; kernel_rfl
theorem leaf_75_121 : T [(58, an_1)] (some [0, 1, 1, 1, 3]) K_75 := by unfold T; kernel_rfl
theorem leaf_75_122 : T [(58, an_1)] (some [0, 1, 1, 1, 2]) K_75 := by unfold T; kernel_rfl
theorem leaf_75_123 : T [(58, an_1)] (some [0, 1, 1, 1, 1]) K_75 := by unfold T; kernel_rfl
theorem leaf_75_124 : T [(58, an_1)] (some [0, 1, 1, 1, 0]) K_75 := by unfold T; kernel_rfl
theorem leaf_75_125 : T [(58, an_1)] (some [0, 1, 1, 0, 4]) K_75 := by unfold T; kernel_rfl
theorem leaf_75_126 : T [(58, an_1)] (some [0, 1, 1, 0, 3]) K_75 := by unfold T; kernel_rfl
theorem leaf_75_127 : T [(58, an_1)] (some [0, 1, 1, 0, 2]) K_75 := by unfold T; kernel_rfl
theorem leaf_75_128 : T [(58, an_1)] (some [0, 1, 1, 0, 1]) K_75 := by unfold T; kernel_rfl
theorem leaf_75_129 : T [(58, an_1)] (some [0, 1, 1, 0, 0]) K_75 := by unfold T; kernel_rfl
theorem leaf_75_130 : T [(58, an_1)] (some [0, 1, 0, 1, 4]) K_75 := by unfold T; kernel_rfl
theorem leaf_75_131 : T [(58, an_1)] (some [0, 1, 0, 1, 3]) K_75 := by unfold T; kernel_rfl
theorem leaf_75_132 : T [(58, an_1)] (some [0, 1, 0, 1, 2]) K_75 := by unfold T; kernel_rfl
theorem leaf_75_133 : T [(58, an_1)] (some [0, 1, 0, 1, 1]) K_75 := by unfold T; kernel_rfl
theorem leaf_75_134 : T [(58, an_1)] (some [0, 1, 0, 1, 0]) K_75 := by unfold T; kernel_rfl
theorem leaf_75_135 : T [(58, an_1)] (some [0, 1, 0, 0, 4]) K_75 := by unfold T; kernel_rfl
theorem leaf_75_136 : T [(58, an_1)] (some [0, 1, 0, 0, 3]) K_75 := by unfold T; kernel_rfl
theorem leaf_75_137 : T [(58, an_1)] (some [0, 1, 0, 0, 2]) K_75 := by unfold T; kernel_rfl
theorem leaf_75_138 : T [(58, an_1)] (some [0, 1, 0, 0, 1]) K_75 := by unfold T; kernel_rfl
theorem leaf_75_139 : T [(58, an_1)] (some [0, 1, 0, 0, 0]) K_75 := by unfold T; kernel_rfl
theorem leaf_75_140 : T [(58, an_1)] (some [0, 0, 1, 1, 4]) K_75 := by unfold T; kernel_rfl
theorem leaf_75_141 : T [(58, an_1)] (some [0, 0, 1, 1, 3]) K_75 := by unfold T; kernel_rfl
theorem leaf_75_142 : T [(58, an_1)] (some [0, 0, 1, 1, 2]) K_75 := by unfold T; kernel_rfl
theorem leaf_75_143 : T [(58, an_1)] (some [0, 0, 1, 1, 1]) K_75 := by unfold T; kernel_rfl
theorem leaf_75_144 : T [(58, an_1)] (some [0, 0, 1, 1, 0]) K_75 := by unfold T; kernel_rfl
theorem leaf_75_145 : T [(58, an_1)] (some [0, 0, 1, 0, 4]) K_75 := by unfold T; kernel_rfl
theorem leaf_75_146 : T [(58, an_1)] (some [0, 0, 1, 0, 3]) K_75 := by unfold T; kernel_rfl
theorem leaf_75_147 : T [(58, an_1)] (some [0, 0, 1, 0, 2]) K_75 := by unfold T; kernel_rfl
theorem leaf_75_148 : T [(58, an_1)] (some [0, 0, 1, 0, 1]) K_75 := by unfold T; kernel_rfl
theorem leaf_75_149 : T [(58, an_1)] (some [0, 0, 1, 0, 0]) K_75 := by unfold T; kernel_rfl
theorem leaf_75_150 : T [(58, an_1)] (some [0, 0, 0, 1, 4]) K_75 := by unfold T; kernel_rfl
theorem leaf_75_151 : T [(58, an_1)] (some [0, 0, 0, 1, 3]) K_75 := by unfold T; kernel_rfl
theorem leaf_75_152 : T [(58, an_1)] (some [0, 0, 0, 1, 2]) K_75 := by unfold T; kernel_rfl
theorem leaf_75_153 : T [(58, an_1)] (some [0, 0, 0, 1, 1]) K_75 := by unfold T; kernel_rfl
theorem leaf_75_154 : T [(58, an_1)] (some [0, 0, 0, 1, 0]) K_75 := by unfold T; kernel_rfl
theorem leaf_75_155 : T [(58, an_1)] (some [0, 0, 0, 0, 4]) K_75 := by unfold T; kernel_rfl
theorem leaf_75_156 : T [(58, an_1)] (some [0, 0, 0, 0, 3]) K_75 := by unfold T; kernel_rfl
theorem leaf_75_157 : T [(58, an_1)] (some [0, 0, 0, 0, 2]) K_75 := by unfold T; kernel_rfl
theorem leaf_75_158 : T [(58, an_1)] (some [0, 0, 0, 0, 1]) K_75 := by unfold T; kernel_rfl
theorem leaf_75_159 : T [(58, an_1)] (some [0, 0, 0, 0, 0]) K_75 := by unfold T; kernel_rfl
theorem leaf_75_160 : T [(58, an_1)] none K_75 := by unfold T; kernel_rfl
def an_2 : Ann := ⟨[0, 3, 11, 12, 13, 14, 6, 7, 8, 9, 10, 15, 16, 17, 18, 19, 20, 21, 22, 23, 24, 25, 26, 27, 28, 29, 30, 31, 32, 33, 34, 35, 36, 37, 38, 39, 40, 41, 42, 43, 44, 45, 46, 47, 48, 49, 50, 51, 52, 53, 54, 55, 56, 57, 58, 59, 60, 61, 62, 63, 64, 65, 66, 67, 68, 69, 70, 71, 72, 73, 74, 75, 76, 77, 78, 79, 80, 81, 82, 83, 84, 85, 86, 87, 88, 89, 90, 91, 92, 93, 94, 95, 96, 97, 98, 99, 100], [3], [(4, .lit (.ofNat 2))], false, [], false, [some (0, 9223372036854775807), some (0, 9223372036854775807), some (0, 60), none, none, some (0, 31), some (0, 4), some (0, 31), some (0, 31), some (0, 31), some (0, 31), some (-9223372036854775808, 9223372036854775807), some (0, 255), some (0, 255), some (0, 255), some (0, 255), some (0, 255), some (0, 255), some (0, 255), some (0, 255), some (0, 255), some (0, 255), some (0, 255), some (0, 255), some (0, 255), none, none, none, some (0, 100)], [(.fb 3468717709486098416511304890608104636813228443551454 (.unit), true), (.cmp .eql (.iv 0) (.fi 3468717709486098416511304890608104636813228443551455 (.unit)), true), (.cmp .leq (.iv 0) (.iv 1), true)], .bin .sub .i64 (.lit (.ofNat 61)) (.iv 2)⟩
theorem leaf_77_0 : T [(58, an_2)] (some []) K_77 := by unfold T; kernel_rfl
theorem leaf_77_1 : T [(58, an_2)] none K_77 := by unfold T; kernel_rfl
def an_3 : Ann := ⟨[0, 3, 11, 12, 13, 14, 6, 7, 8, 9, 10, 15, 16, 17, 18, 19, 20, 21, 22, 23, 24, 25, 26, 27, 28, 29, 30, 31, 32, 33, 34, 35, 36, 37, 38, 39, 40, 41, 42, 43, 44, 45, 46, 47, 48, 49, 50, 51, 52, 53, 54, 55, 56, 57, 58, 59, 60, 61, 62, 63, 64, 65, 66, 67, 68, 69, 70, 71, 72, 73, 74, 75, 76, 77, 78, 79, 80, 81, 82, 83, 84, 85, 86, 87, 88, 89, 90, 91, 92, 93, 94, 95, 96, 97, 98, 99, 100], [3], [(4, .lit (.ofNat 3))], false, [], false, [some (0, 9223372036854775807), some (0, 9223372036854775807), some (0, 60), none, none, some (0, 31), some (0, 4), some (0, 31), some (0, 31), some (0, 31), some (0, 31), some (-9223372036854775808, 9223372036854775807), some (0, 255), some (0, 255), some (0, 255), some (0, 255), some (0, 255), some (0, 255), some (0, 255), some (0, 255), some (0, 255), some (0, 255), some (0, 255), some (0, 255), some (0, 255), none, none, none, some (0, 100)], [(.fb 3468717709486098416511304890608104636813228443551454 (.unit), true), (.cmp .eql (.iv 0) (.fi 3468717709486098416511304890608104636813228443551455 (.unit)), true), (.cmp .leq (.iv 0) (.iv 1), true)], .bin .sub .i64 (.lit (.ofNat 61)) (.iv 2)⟩
theorem leaf_79_0 : T [(58, an_3)] (some []) K_79 := by unfold T; kernel_rfl
theorem leaf_79_1 : T [(58, an_3)] none K_79 := by unfold T; kernel_rfl
def an_4 : Ann := ⟨[0, 3, 11, 12, 13, 14, 6, 7, 8, 9, 10, 15, 16, 17, 18, 19, 20, 21, 22, 23, 24, 25, 26, 27, 28, 29, 30, 31, 32, 33, 34, 35, 36, 37, 38, 39, 40, 41, 42, 43, 44, 45, 46, 47, 48, 49, 50, 51, 52, 53, 54, 55, 56, 57, 58, 59, 60, 61, 62, 63, 64, 65, 66, 67, 68, 69, 70, 71, 72, 73, 74, 75, 76, 77, 78, 79, 80, 81, 82, 83, 84, 85, 86, 87, 88, 89, 90, 91, 92, 93, 94, 95, 96, 97, 98, 99, 100], [3], [(4, .lit (.ofNat 4))], false, [(.bin .and .u16 (.bin .shr .u16 (.wrap .u16 (.fi 3468717709486098416511304890608104636813228443551428 (.iv 2))) (.lit (.ofNat 13))) (.lit (.ofNat 3)), 4), (.bin .and .u8 (.iv 13) (.lit (.ofNat 7)), 8), (.cmp .eql (.iv 28) (.lit (.ofNat 100)), 0)], false, [some (0, 9223372036854775807), some (0, 9223372036854775807), some (0, 60), none, none, some (0, 31), some (0, 4), some (0, 31), some (0, 31), some (0, 31), some (0, 31), some (-9223372036854775808, 9223372036854775807), some (0, 255), some (0, 255), some (0, 255), some (0, 255), some (0, 255), some (0, 255), some (0, 255), some (0, 255), some (0, 255), some (0, 255), some (0, 255), some (0, 255), some (0, 255), none, none, none, some (0, 100)], [(.fb 3468717709486098416511304890608104636813228443551454 (.unit), true), (.cmp .eql (.iv 0) (.fi 3468717709486098416511304890608104636813228443551455 (.unit)), true), (.cmp .leq (.iv 0) (.iv 1), true)], .bin .sub .i64 (.lit (.ofNat 61)) (.iv 2)⟩
theorem leaf_81_0 : T [(58, an_4)] (some [3, 7, 1]) K_81 := by unfold T; kernel_rfl
theorem leaf_81_1 : T [(58, an_4)] (some [3, 7, 0]) K_81 := by unfold T; kernel_rfl
theorem leaf_81_2 : T [(58, an_4)] (some [3, 6, 1]) K_81 := by unfold T; kernel_rfl
theorem leaf_81_3 : T [(58, an_4)] (some [3, 6, 0]) K_81 := by unfold T; kernel_rfl
theorem leaf_81_4 : T [(58, an_4)] (some [3, 5, 1]) K_81 := by unfold T; kernel_rfl
theorem leaf_81_5 : T [(58, an_4)] (some [3, 5, 0]) K_81 := by unfold T; kernel_rfl
theorem leaf_81_6 : T [(58, an_4)] (some [3, 4, 1]) K_81 := by unfold T; kernel_rfl
theorem leaf_81_7 : T [(58, an_4)] (some [3, 4, 0]) K_81 := by unfold T; kernel_rfl
theorem leaf_81_8 : T [(58, an_4)] (some [3, 3, 1]) K_81 := by unfold T; kernel_rfl
theorem leaf_81_9 : T [(58, an_4)] (some [3, 3, 0]) K_81 := by unfold T; kernel_rfl
theorem leaf_81_10 : T [(58, an_4)] (some [3, 2, 1]) K_81 := by unfold T; kernel_rfl
theorem leaf_81_11 : T [(58, an_4)] (some [3, 2, 0]) K_81 := by unfold T; kernel_rfl
theorem leaf_81_12 : T [(58, an_4)] (some [3, 1, 1]) K_81 := by unfold T; kernel_rfl
theorem leaf_81_13 : T [(58, an_4)] (some [3, 1, 0]) K_81 := by unfold T; kernel_rfl
theorem leaf_81_14 : T [(58, an_4)] (some [3, 0, 1]) K_81 := by unfold T; kernel_rfl
theorem leaf_81_15 : T [(58, an_4)] (some [3, 0, 0]) K_81 := by unfold T; kernel_rfl
theorem leaf_81_16 : T [(58, an_4)] (some [2, 7, 1]) K_81 := by unfold T; kernel_rfl
theorem leaf_81_17 : T [(58, an_4)] (some [2, 7, 0]) K_81 := by unfold T; kernel_rfl
theorem leaf_81_18 : T [(58, an_4)] (some [2, 6, 1]) K_81 := by unfold T; kernel_rfl
theorem leaf_81_19 : T [(58, an_4)] (some [2, 6, 0]) K_81 := by unfold T; kernel_rfl
theorem leaf_81_20 : T [(58, an_4)] (some [2, 5, 1]) K_81 := by unfold T; kernel_rfl
theorem leaf_81_21 : T [(58, an_4)] (some [2, 5, 0]) K_81 := by unfold T; kernel_rfl
theorem leaf_81_22 : T [(58, an_4)] (some [2, 4, 1]) K_81 := by unfold T; kernel_rfl
theorem leaf_81_23 : T [(58, an_4)] (some [2, 4, 0]) K_81 := by unfold T; kernel_rfl
theorem leaf_81_24 : T [(58, an_4)] (some [2, 3, 1]) K_81 := by unfold T; kernel_rfl
theorem leaf_81_25 : T [(58, an_4)] (some [2, 3, 0]) K_81 := by unfold T; kernel_rfl
theorem leaf_81_26 : T [(58, an_4)] (some [2, 2, 1]) K_81 := by unfold T; kernel_rfl
theorem leaf_81_27 : T [(58, an_4)] (some [2, 2, 0]) K_81 := by unfold T; kernel_rfl
theorem leaf_81_28 : T [(58, an_4)] (some [2, 1, 1]) K_81 := by unfold T; kernel_rfl
theorem leaf_81_29 : T [(58, an_4)] (some [2, 1, 0]) K_81 := by unfold T; kernel_rfl
theorem leaf_81_30 : T [(58, an_4)] (some [2, 0, 1]) K_81 := by unfold T; kernel_rfl
theorem leaf_81_31 : T [(58, an_4)] (some [2, 0, 0]) K_81 := by unfold T; kernel_rfl
theorem leaf_81_32 : T [(58, an_4)] (some [1, 7, 1]) K_81 := by unfold T; kernel_rfl
theorem leaf_81_33 : T [(58, an_4)] (some [1, 7, 0]) K_81 := by unfold T; kernel_rfl
theorem leaf_81_34 : T [(58, an_4)] (some [1, 6, 1]) K_81 := by unfold T; kernel_rfl
theorem leaf_81_35 : T [(58, an_4)] (some [1, 6, 0]) K_81 := by unfold T; kernel_rfl
theorem leaf_81_36 : T [(58, an_4)] (some [1, 5, 1]) K_81 := by unfold T; kernel_rfl
theorem leaf_81_37 : T [(58, an_4)] (some [1, 5, 0]) K_81 := by unfold T; kernel_rfl
theorem leaf_81_38 : T [(58, an_4)] (some [1, 4, 1]) K_81 := by unfold T; kernel_rfl
theorem leaf_81_39 : T [(58, an_4)] (some [1, 4, 0]) K_81 := by unfold T; kernel_rfl
theorem leaf_81_40 : T [(58, an_4)] (some [1, 3, 1]) K_81 := by unfold T; kernel_rfl
theorem leaf_81_41 : T [(58, an_4)] (some [1, 3, 0]) K_81 := by unfold T; kernel_rfl
theorem leaf_81_42 : T [(58, an_4)] (some [1, 2, 1]) K_81 := by unfold T; kernel_rfl
theorem leaf_81_43 : T [(58, an_4)] (some [1, 2, 0]) K_81 := by unfold T; kernel_rfl
theorem leaf_81_44 : T [(58, an_4)] (some [1, 1, 1]) K_81 := by unfold T; kernel_rfl
theorem leaf_81_45 : T [(58, an_4)] (some [1, 1, 0]) K_81 := by unfold T; kernel_rfl
theorem leaf_81_46 : T [(58, an_4)] (some [1, 0, 1]) K_81 := by unfold T; kernel_rfl
theorem leaf_81_47 : T [(58, an_4)] (some [1, 0, 0]) K_81 := by unfold T; kernel_rfl
theorem leaf_81_48 : T [(58, an_4)] (some [0, 7, 1]) K_81 := by unfold T; kernel_rfl
theorem leaf_81_49 : T [(58, an_4)] (some [0, 7, 0]) K_81 := by unfold T; kernel_rfl
theorem leaf_81_50 : T [(58, an_4)] (some [0, 6, 1]) K_81 := by unfold T; kernel_rfl
theorem leaf_81_51 : T [(58, an_4)] (some [0, 6, 0]) K_81 := by unfold T; kernel_rfl
theorem leaf_81_52 : T [(58, an_4)] (some [0, 5, 1]) K_81 := by unfold T; kernel_rfl
theorem leaf_81_53 : T [(58, an_4)] (some [0, 5, 0]) K_81 := by unfold T; kernel_rfl
theorem leaf_81_54 : T [(58, an_4)] (some [0, 4, 1]) K_81 := by unfold T; kernel_rfl
theorem leaf_81_55 : T [(58, an_4)] (some [0, 4, 0]) K_81 := by unfold T; kernel_rfl
theorem leaf_81_56 : T [(58, an_4)] (some [0, 3, 1]) K_81 := by unfold T; kernel_rfl
theorem leaf_81_57 : T [(58, an_4)] (some [0, 3, 0]) K_81 := by unfold T; kernel_rfl
theorem leaf_81_58 : T [(58, an_4)] (some [0, 2, 1]) K_81 := by unfold T; kernel_rfl
theorem leaf_81_59 : T [(58, an_4)] (some [0, 2, 0]) K_81 := by unfold T; kernel_rfl
theorem leaf_81_60 : T [(58, an_4)] (some [0, 1, 1]) K_81 := by unfold T; kernel_rfl
theorem leaf_81_61 : T [(58, an_4)] (some [0, 1, 0]) K_81 := by unfold T; kernel_rfl
theorem leaf_81_62 : T [(58, an_4)] (some [0, 0, 1]) K_81 := by unfold T; kernel_rfl
theorem leaf_81_63 : T [(58, an_4)] (some [0, 0, 0]) K_81 := by unfold T; kernel_rfl
theorem leaf_81_64 : T [(58, an_4)] none K_81 := by unfold T; kernel_rfl
def an_5 : Ann := ⟨[0, 3, 11, 12, 13, 14, 6, 7, 8, 9, 10, 15, 16, 17, 18, 19, 20, 21, 22, 23, 24, 25, 26, 27, 28, 29, 30, 31, 32, 33, 34, 35, 36, 37, 38, 39, 40, 41, 42, 43, 44, 45, 46, 47, 48, 49, 50, 51, 52, 53, 54, 55, 56, 57, 58, 59, 60, 61, 62, 63, 64, 65, 66, 67, 68, 69, 70, 71, 72, 73, 74, 75, 76, 77, 78, 79, 80, 81, 82, 83, 84, 85, 86, 87, 88, 89, 90, 91, 92, 93, 94, 95, 96, 97, 98, 99, 100], [3], [(4, .lit (.ofNat 7))], false, [], false, [some (0, 9223372036854775807), some (0, 9223372036854775807), some (0, 60), none, none, some (0, 31), some (0, 4), some (0, 31), some (0, 31), some (0, 31), some (0, 31), some (-9223372036854775808, 9223372036854775807), some (0, 255), some (0, 255), some (0, 255), some (0, 255), some (0, 255), some (0, 255), some (0, 255), some (0, 255), some (0, 255), some (0, 255), some (0, 255), some (0, 255), some (0, 255), none, none, none, some (0, 100)], [(.fb 3468717709486098416511304890608104636813228443551454 (.unit), true), (.cmp .eql (.iv 0) (.fi 3468717709486098416511304890608104636813228443551455 (.unit)), true), (.cmp .leq (.iv 0) (.iv 1), true)], .bin .sub .i64 (.lit (.ofNat 61)) (.iv 2)⟩
theorem leaf_83_0 : T [(58, an_5)] (some []) K_83 := by unfold T; kernel_rfl
theorem leaf_83_1 : T [(58, an_5)] none K_83 := by unfold T; kernel_rfl
theorem leaf_84 : V K_84 := by unfold V; kernel_rfl
theorem know_11 : X.proveE 300 1000 K_11 c_8 = true := by kernel_rfl
theorem know_13 : X.proveE 300 1000 K_13 c_9 = true := by kernel_rfl
theorem know_16 : X.proveE 300 1000 K_16 c_8 = true := by kernel_rfl
theorem know_18 : X.proveE 300 1000 K_18 c_11 = true := by kernel_rfl
theorem know_22 : X.proveE 300 1000 K_22 c_8 = true := by kernel_rfl
theorem know_24 : X.proveE 300 1000 K_24 c_9 = true := by kernel_rfl
theorem know_27 : X.proveE 300 1000 K_27 c_8 = true := by kernel_rfl
theorem know_29 : X.proveE 300 1000 K_29 c_14 = true := by kernel_rfl
theorem know_34 : X.proveE 300 1000 K_34 c_8 = true := by kernel_rfl
theorem know_36 : X.proveE 300 1000 K_36 c_9 = true := by kernel_rfl
theorem know_39 : X.proveE 300 1000 K_39 c_8 = true := by kernel_rfl
theorem know_41 : X.proveE 300 1000 K_41 c_11 = true := by kernel_rfl
theorem know_45 : X.proveE 300 1000 K_45 c_8 = true := by kernel_rfl
theorem know_47 : X.proveE 300 1000 K_47 c_9 = true := by kernel_rfl
theorem know_50 : X.proveE 300 1000 K_50 c_8 = true := by kernel_rfl
theorem know_52 : X.proveE 300 1000 K_52 c_18 = true := by kernel_rfl
theorem plan8 : ∀ ρ, (addRows rs8 ⟨ks8.map LK.rg, []⟩).ok ρ → ∃ K anns, K.ok ρ ∧ AllM (fun M => vcF Try.prog 0 (sumsIn sums12) 300 2 anns M 8 ss8 K = true) (modesOf anns) := fun _ h => split_on c_0 h (fun (h : K_1.ok _) => ⟨K_1, [], h, ⟨leaf_1, trivial⟩⟩) (fun (h : K_2.ok _) => split_on c_1 h (fun (h : K_3.ok _) => ⟨K_3, [], h, ⟨leaf_3, trivial⟩⟩) (fun (h : K_4.ok _) => split_on c_2 h (fun (h : K_5.ok _) => ⟨K_5, [], h, ⟨leaf_5, trivial⟩⟩) (fun (h : K_6.ok _) => split_on c_3 h (fun (h : K_7.ok _) => split_on c_4 h (fun (h : K_8.ok _) => split_on c_5 h (fun (h : K_9.ok _) => split_on c_6 h (fun (h : K_10.ok _) => split_on c_7 h (fun (h : K_11.ok _) => split_know c_8 h know_11 (fun (h : K_12.ok _) => ⟨K_12, [], h, ⟨leaf_12, trivial⟩⟩)) (fun (h : K_13.ok _) => split_know c_9 h know_13 (fun (h : K_14.ok _) => ⟨K_14, [], h, ⟨leaf_14, trivial⟩⟩))) (fun (h : K_15.ok _) => split_on c_10 h (fun (h : K_16.ok _) => split_know c_8 h know_16 (fun (h : K_17.ok _) => ⟨K_17, [], h, ⟨leaf_17, trivial⟩⟩)) (fun (h : K_18.ok _) => split_know c_11 h know_18 (fun (h : K_19.ok _) => ⟨K_19, [], h, ⟨leaf_19, trivial⟩⟩)))) (fun (h : K_20.ok _) => split_on c_12 h (fun (h : K_21.ok _) => split_on c_7 h (fun (h : K_22.ok _) => split_know c_8 h know_22 (fun (h : K_23.ok _) => ⟨K_23, [], h, ⟨leaf_23, trivial⟩⟩)) (fun (h : K_24.ok _) => split_know c_9 h know_24 (fun (h : K_25.ok _) => ⟨K_25, [], h, ⟨leaf_25, trivial⟩⟩))) (fun (h : K_26.ok _) => split_on c_13 h (fun (h : K_27.ok _) => split_know c_8 h know_27 (fun (h : K_28.ok _) => ⟨K_28, [], h, ⟨leaf_28, trivial⟩⟩)) (fun (h : K_29.ok _) => split_know c_14 h know_29 (fun (h : K_30.ok _) => ⟨K_30, [], h, ⟨leaf_30, trivial⟩⟩))))) (fun (h : K_31.ok _) => split_on c_15 h (fun (h : K_32.ok _) => split_on c_6 h (fun (h : K_33.ok _) => split_on c_7 h (fun (h : K_34.ok _) => split_know c_8 h know_34 (fun (h : K_35.ok _) => ⟨K_35, [], h, ⟨leaf_35, trivial⟩⟩)) (fun (h : K_36.ok _) => split_know c_9 h know_36 (fun (h : K_37.ok _) => ⟨K_37, [], h, ⟨leaf_37, trivial⟩⟩))) (fun (h : K_38.ok _) => split_on c_10 h (fun (h : K_39.ok _) => split_know c_8 h know_39 (fun (h : K_40.ok _) => ⟨K_40, [], h, ⟨leaf_40, trivial⟩⟩)) (fun (h : K_41.ok _) => split_know c_11 h know_41 (fun (h : K_42.ok _) => ⟨K_42, [], h, ⟨leaf_42, trivial⟩⟩)))) (fun (h : K_43.ok _) => split_on c_16 h (fun (h : K_44.ok _) => split_on c_7 h (fun (h : K_45.ok _) => split_know c_8 h know_45 (fun (h : K_46.ok _) => ⟨K_46, [], h, ⟨leaf_46, trivial⟩⟩)) (fun (h : K_47.ok _) => split_know c_9 h know_47 (fun (h : K_48.ok _) => ⟨K_48, [], h, ⟨leaf_48, trivial⟩⟩))) (fun (h : K_49.ok _) => split_on c_17 h (fun (h : K_50.ok _) => split_know c_8 h know_50 (fun (h : K_51.ok _) => ⟨K_51, [], h, ⟨leaf_51, trivial⟩⟩)) (fun (h : K_52.ok _) => split_know c_18 h know_52 (fun (h : K_53.ok _) => ⟨K_53, [], h, ⟨leaf_53, trivial⟩⟩)))))) (fun (h : K_54.ok _) => split_on c_18 h (fun (h : K_55.ok _) => split_void (big := 20) (n := 60) h leaf_55) (fun (h : K_56.ok _) => split_on c_14 h (fun (h : K_57.ok _) => split_void (big := 20) (n := 60) h leaf_57) (fun (h : K_58.ok _) => split_on c_11 h (fun (h : K_59.ok _) => split_void (big := 20) (n := 60) h leaf_59) (fun (h : K_60.ok _) => split_on c_9 h (fun (h : K_61.ok _) => split_void (big := 20) (n := 60) h leaf_61) (fun (h : K_62.ok _) => split_on c_8 h (fun (h : K_63.ok _) => split_void (big := 20) (n := 60) h leaf_63) (fun (h : K_64.ok _) => split_on c_19 h (fun (h : K_65.ok _) => ⟨K_65, [], h, ⟨leaf_65, trivial⟩⟩) (fun (h : K_66.ok _) => split_on c_20 h (fun (h : K_67.ok _) => ⟨K_67, [], h, ⟨leaf_67, trivial⟩⟩) (fun (h : K_68.ok _) => split_on c_21 h (fun (h : K_69.ok _) => ⟨K_69, [], h, ⟨leaf_69, trivial⟩⟩) (fun (h : K_70.ok _) => split_on c_22 h (fun (h : K_71.ok _) => ⟨K_71, [], h, ⟨leaf_71, trivial⟩⟩) (fun (h : K_72.ok _) => split_on c_23 h (fun (h : K_73.ok _) => ⟨K_73, [(58, an_0)], h, ⟨leaf_73_0, leaf_73_1, trivial⟩⟩) (fun (h : K_74.ok _) => split_on c_24 h (fun (h : K_75.ok _) => ⟨K_75, [(58, an_1)], h, ⟨leaf_75_0, leaf_75_1, leaf_75_2, leaf_75_3, leaf_75_4, leaf_75_5, leaf_75_6, leaf_75_7, leaf_75_8, leaf_75_9, leaf_75_10, leaf_75_11, leaf_75_12, leaf_75_13, leaf_75_14, leaf_75_15, leaf_75_16, leaf_75_17, leaf_75_18, leaf_75_19, leaf_75_20, leaf_75_21, leaf_75_22, leaf_75_23, leaf_75_24, leaf_75_25, leaf_75_26, leaf_75_27, leaf_75_28, leaf_75_29, leaf_75_30, leaf_75_31, leaf_75_32, leaf_75_33, leaf_75_34, leaf_75_35, leaf_75_36, leaf_75_37, leaf_75_38, leaf_75_39, leaf_75_40, leaf_75_41, leaf_75_42, leaf_75_43, leaf_75_44, leaf_75_45, leaf_75_46, leaf_75_47, leaf_75_48, leaf_75_49, leaf_75_50, leaf_75_51, leaf_75_52, leaf_75_53, leaf_75_54, leaf_75_55, leaf_75_56, leaf_75_57, leaf_75_58, leaf_75_59, leaf_75_60, leaf_75_61, leaf_75_62, leaf_75_63, leaf_75_64, leaf_75_65, leaf_75_66, leaf_75_67, leaf_75_68, leaf_75_69, leaf_75_70, leaf_75_71, leaf_75_72, leaf_75_73, leaf_75_74, leaf_75_75, leaf_75_76, leaf_75_77, leaf_75_78, leaf_75_79, leaf_75_80, leaf_75_81, leaf_75_82, leaf_75_83, leaf_75_84, leaf_75_85, leaf_75_86, leaf_75_87, leaf_75_88, leaf_75_89, leaf_75_90, leaf_75_91, leaf_75_92, leaf_75_93, leaf_75_94, leaf_75_95, leaf_75_96, leaf_75_97, leaf_75_98, leaf_75_99, leaf_75_100, leaf_75_101, leaf_75_102, leaf_75_103, leaf_75_104, leaf_75_105, leaf_75_106, leaf_75_107, leaf_75_108, leaf_75_109, leaf_75_110, leaf_75_111, leaf_75_112, leaf_75_113, leaf_75_114, leaf_75_115, leaf_75_116, leaf_75_117, leaf_75_118, leaf_75_119, leaf_75_120, leaf_75_121, leaf_75_122, leaf_75_123, leaf_75_124, leaf_75_125, leaf_75_126, leaf_75_127, leaf_75_128, leaf_75_129, leaf_75_130, leaf_75_131, leaf_75_132, leaf_75_133, leaf_75_134, leaf_75_135, leaf_75_136, leaf_75_137, leaf_75_138, leaf_75_139, leaf_75_140, leaf_75_141, leaf_75_142, leaf_75_143, leaf_75_144, leaf_75_145, leaf_75_146, leaf_75_147, leaf_75_148, leaf_75_149, leaf_75_150, leaf_75_151, leaf_75_152, leaf_75_153, leaf_75_154, leaf_75_155, leaf_75_156, leaf_75_157, leaf_75_158, leaf_75_159, leaf_75_160, trivial⟩⟩) (fun (h : K_76.ok _) => split_on c_25 h (fun (h : K_77.ok _) => ⟨K_77, [(58, an_2)], h, ⟨leaf_77_0, leaf_77_1, trivial⟩⟩) (fun (h : K_78.ok _) => split_on c_26 h (fun (h : K_79.ok _) => ⟨K_79, [(58, an_3)], h, ⟨leaf_79_0, leaf_79_1, trivial⟩⟩) (fun (h : K_80.ok _) => split_on c_27 h (fun (h : K_81.ok _) => ⟨K_81, [(58, an_4)], h, ⟨leaf_81_0, leaf_81_1, leaf_81_2, leaf_81_3, leaf_81_4, leaf_81_5, leaf_81_6, leaf_81_7, leaf_81_8, leaf_81_9, leaf_81_10, leaf_81_11, leaf_81_12, leaf_81_13, leaf_81_14, leaf_81_15, leaf_81_16, leaf_81_17, leaf_81_18, leaf_81_19, leaf_81_20, leaf_81_21, leaf_81_22, leaf_81_23, leaf_81_24, leaf_81_25, leaf_81_26, leaf_81_27, leaf_81_28, leaf_81_29, leaf_81_30, leaf_81_31, leaf_81_32, leaf_81_33, leaf_81_34, leaf_81_35, leaf_81_36, leaf_81_37, leaf_81_38, leaf_81_39, leaf_81_40, leaf_81_41, leaf_81_42, leaf_81_43, leaf_81_44, leaf_81_45, leaf_81_46, leaf_81_47, leaf_81_48, leaf_81_49, leaf_81_50, leaf_81_51, leaf_81_52, leaf_81_53, leaf_81_54, leaf_81_55, leaf_81_56, leaf_81_57, leaf_81_58, leaf_81_59, leaf_81_60, leaf_81_61, leaf_81_62, leaf_81_63, leaf_81_64, trivial⟩⟩) (fun (h : K_82.ok _) => split_on c_28 h (fun (h : K_83.ok _) => ⟨K_83, [(58, an_5)], h, ⟨leaf_83_0, leaf_83_1, trivial⟩⟩) (fun (h : K_84.ok _) => split_void (big := 20) (n := 60) h leaf_84)))))))))))))))))))

def zeros : Env := ⟨fun _ => 0, fun _ => false, fun _ _ => 0, fun _ _ => true, fun _ => .bool false, fun _ => ⟨⟨0, 0, none⟩, .cells #[] 0 (0, 0)⟩⟩
set_option maxRecDepth 100000 in
theorem lifted8 (os : Os) (started : os.Started) (H : Type) (enc : TypeId × Value → H) :
    ReturnsInHanded {} Try.checked os 8 .any (Rows.mapperStaysSpec.pre6 enc Try.prog Try.f8 Rows.mapperStaysRow.domain false) (Rows.mapperStaysSpec.post enc Try.prog Try.f8 false true false false) := by
  refine returnsInHanded_of_change (C := Try.checked) own started (by kernel_rfl) Try.func8
    (ChangeSpec.witness6 (enc := enc) (C := Try.checked) false ⟨#[], (ss8.map (SV.den zeros fun _ => 0)).toArray, []⟩ 8 (by kernel_rfl) (by kernel_rfl) (by kernel_rfl) (by kernel_rfl)) ?_
  intro W base args ds gs before hval0 hW _ _
  have hval : ∀ (j : Nat) t v, Try.f8.params[j]? = some t → args[j]? = some v → Value.okWide Try.prog W .any base t v := hval0
  have hW' := hW
  obtain ⟨p, q, hA0, hV, rfl, _, _⟩ := hW
  have hA : DataW.TrodAll enc Try.prog W 0 (fun _ => true) true Try.f8.params.toList args.toList ds p := hA0
  obtain ⟨rfl, rfl⟩ := trodVars_none hV
  have hA1 := hA
  rw [Try.params8] at hA1
  obtain ⟨v0, v1, d0, d1, p0, p1, _, rfl, _, _, _⟩ := trodAll_two hA1
  refine (rows_vc (r := .any) (base := base) mixed sok12 args8 plan8 (fun j t v ht hv => hval j t v (by simpa using ht) hv) hA).mono fun e W' ⟨⟨v, he, hv⟩, hb⟩ => ?_
  subst hv
  subst he
  exact ⟨_, rfl, law_post (tb := 4) laid rfl (by rw [Try.params8]; intro t ht; simp at ht; first | (subst ht; exact ⟨by kernel_rfl, of_decide_eq_true (by kernel_rfl)⟩) | (rcases ht with rfl | rfl <;> exact ⟨by kernel_rfl, of_decide_eq_true (by kernel_rfl)⟩) | (rcases ht with rfl | rfl | rfl <;> exact ⟨by kernel_rfl, of_decide_eq_true (by kernel_rfl)⟩)) rfl Try.underlying4 hW' hA hb ⟨rfl, rfl, rfl⟩⟩

theorem mapperStays_holds : Rows.MapperStaysSaid :=
  OpenClaim.holds_of_wide 8 Try.f8 rfl rfl rfl rfl rfl rfl rfl ⟨rfl, rfl, rfl, rfl, rfl⟩ rfl rfl rfl rfl rfl (by kernel_rfl) Try.func8 (by kernel_rfl)
    (of_decide_eq_true (by kernel_rfl)) (by unfold Func.isWrapper; first | (rw [if_pos (by decide +kernel)]; kernel_rfl) | (rw [if_neg (by decide +kernel)]; exact ⟨rfl, rfl⟩))
    (fun os started H enc _ => lifted8 os started H enc)
#print axioms mapperStays_holds
end Go.Proofs.Ytnjjdakmpkddhaa
