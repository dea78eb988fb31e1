/- For every input MapperStays answers true. -/
import Derived.Test.YtnjjdakmpkddhaaRows
import Derived.Test.YtnjjdakmpkddhaaSx23
namespace Go.Proofs.Ytnjjdakmpkddhaa
open Go.ChangeShapes Go.WideShapes Go.ChangeAt Go.RowKit Go.Sx

theorem own : ownKnob Try.prog.godebug = none := by kernel_rfl
theorem laid : laidOutB Try.prog = true := by kernel_rfl
theorem mixed : Try.prog.follows .mixedOrders = true := by kernel_rfl

def v26 : ST := .v (.c (.cb (.or (.and (.cmp .geq (.iv 0) (.lit (.ofNat 0))) (.cmp .leq (.iv 0) (.lit (.ofNat 4)))) (.cmp .eql (.iv 0) (.lit (.ofNat 7))))))
def ss26 : List SV := [.c (.ci .i64 (.iv 0))]
def ks26 : List LK := [.i .i64]
theorem args26 : argTs Try.prog Try.f26.params.toList 0 = some (ss26, ks26) := by kernel_rfl
theorem tree26 : tree Try.prog 12 (sumsIn []) 300 26 ss26 bare 0 ⟨ks26.map LK.rg, []⟩ = .leaf v26 := by kernel_rfl
def sums26 : List Sm := ⟨26, ss26, ks26, v26⟩ :: []
theorem sok26 : SumsOk Try.prog sums26 := sums_cons mixed sums_nil args26 tree26 (by kernel_rfl)
def x21_9 : X := .not (.or (.and (.cmp .geq (.iv 0) (.lit (.ofNat 0))) (.cmp .leq (.iv 0) (.lit (.ofNat 4)))) (.cmp .eql (.iv 0) (.lit (.ofNat 7))))
def x21_12 : X := .bin .quo .i64 (.iv 2) (.lit (.ofNat 16384))
def x21_14 : X := .cmp .eql x21_12 (.lit (.ofNat 1))
def x21_15 : X := .not x21_14
def x21_17 : X := .cmp .eql x21_12 (.lit (.ofNat 2))
def x21_19 : X := .not x21_17
def x21_20 : X := .cmp .eql x21_12 (.lit (.ofNat 4))
def x21_23 : X := .not x21_20
def x21_25 : X := .cmp .eql x21_12 (.lit (.ofNat 8))
def x21_30 : X := .not x21_25
def x21_32 : X := .cmp .eql x21_12 (.lit (.ofNat 16))
def x21_53 : X := .cmp .geq (.ite x21_14 (.lit (.ofNat 0)) (.ite (.and x21_15 x21_17) (.lit (.ofNat 1)) (.ite (.and x21_15 (.and x21_19 x21_20)) (.lit (.ofNat 2)) (.ite (.and x21_15 (.and x21_19 (.and x21_23 x21_25))) (.lit (.ofNat 3)) (.ite (.and x21_15 (.and x21_19 (.and x21_23 (.and x21_30 x21_32)))) (.lit (.ofNat 4)) (.ite (.and x21_15 (.and x21_19 (.and x21_23 (.and x21_30 (.and (.not x21_32) (.cmp .eql x21_12 (.lit (.ofNat 32)))))))) (.lit (.ofNat 5)) (.lit (.negSucc 0)))))))) (.lit (.ofNat 0))
def x21_60 : X := .bin .quo .i64 (.iv 3) (.lit (.ofNat 8192))
def x21_61 : X := .cmp .eql x21_60 (.lit (.ofNat 1))
def x21_62 : X := .not x21_61
def x21_63 : X := .cmp .eql x21_60 (.lit (.ofNat 2))
def x21_65 : X := .not x21_63
def x21_66 : X := .cmp .eql x21_60 (.lit (.ofNat 4))
def x21_69 : X := .not x21_66
def x21_70 : X := .cmp .eql x21_60 (.lit (.ofNat 8))
def x21_74 : X := .not x21_70
def x21_75 : X := .cmp .eql x21_60 (.lit (.ofNat 16))
def x21_93 : X := .cmp .geq (.ite x21_61 (.lit (.ofNat 0)) (.ite (.and x21_62 x21_63) (.lit (.ofNat 1)) (.ite (.and x21_62 (.and x21_65 x21_66)) (.lit (.ofNat 2)) (.ite (.and x21_62 (.and x21_65 (.and x21_69 x21_70))) (.lit (.ofNat 3)) (.ite (.and x21_62 (.and x21_65 (.and x21_69 (.and x21_74 x21_75)))) (.lit (.ofNat 4)) (.ite (.and x21_62 (.and x21_65 (.and x21_69 (.and x21_74 (.and (.not x21_75) (.cmp .eql x21_60 (.lit (.ofNat 32)))))))) (.lit (.ofNat 5)) (.lit (.negSucc 0)))))))) (.lit (.ofNat 0))
def x21_102 : X := .or (.or (.not (.and x21_53 (.cmp .eql (.bin .rem .i64 (.iv 2) (.lit (.ofNat 16384))) (.lit (.ofNat 0))))) (.not (.and x21_93 (.cmp .eql (.bin .rem .i64 (.iv 3) (.lit (.ofNat 8192))) (.lit (.ofNat 0)))))) (.and (.bv 8) (.cmp .neq (.iv 3) (.lit (.ofNat 8192))))
def v21 : ST := .v (.c (.ci .i64 (.ite (.or x21_9 (.or x21_102 (.or (.or (.cmp .lss (.iv 1) (.lit (.ofNat 0))) (.cmp .gtr (.iv 1) (.lit (.ofNat 15)))) (.and (.not (.bv 7)) (.cmp .neq (.iv 1) (.lit (.ofNat 0))))))) (.ite x21_9 (.lit (.ofNat 6)) (.ite x21_102 (.lit (.ofNat 5)) (.lit (.ofNat 1)))) (.lit (.ofNat 0)))))
def ss21 : List SV := [.agg [.ci .i64 (.iv 0), .ci .i64 (.iv 1), .ci .i64 (.iv 2), .ci .i64 (.iv 3), .cb (.bv 4), .cb (.bv 5), .cb (.bv 6), .cb (.bv 7), .cb (.bv 8)]]
def ks21 : List LK := [.i .i64, .i .i64, .i .i64, .i .i64, .b, .b, .b, .b, .b]
theorem args21 : argTs Try.prog Try.f21.params.toList 0 = some (ss21, ks21) := by kernel_rfl
theorem tree21 : tree Try.prog 12 (sumsIn sums26) 300 21 ss21 bare 0 ⟨ks21.map LK.rg, []⟩ = .leaf v21 := by kernel_rfl
def sums21 : List Sm := ⟨21, ss21, ks21, v21⟩ :: sums26
theorem sok21 : SumsOk Try.prog sums21 := sums_cons mixed sok26 args21 tree21 (by kernel_rfl)
def x9_9 : X := .not (.or (.and (.cmp .geq (.iv 0) (.lit (.ofNat 0))) (.cmp .leq (.iv 0) (.lit (.ofNat 4)))) (.cmp .eql (.iv 0) (.lit (.ofNat 7))))
def x9_21 : X := .ite (.cmp .gtr (.iv 5) (.iv 3)) (.iv 5) (.iv 3)
def x9_23 : X := .ite (.cmp .gtr (.iv 6) x9_21) (.iv 6) x9_21
def x9_25 : X := .ite (.cmp .gtr (.iv 7) x9_23) (.iv 7) x9_23
def v9 : ST := .v (.c (.ci .i64 (.ite (.or (.or (.or (.or (.cmp .neq (.ite x9_9 (.ite x9_9 (.lit (.ofNat 6)) (.lit (.ofNat 1))) (.lit (.ofNat 0))) (.lit (.ofNat 0))) (.cmp .geq (.ite (.cmp .gtr (.iv 8) x9_25) (.iv 8) x9_25) (.lit (.ofNat 32)))) (.cmp .geq (.iv 4) (.lit (.ofNat 5)))) (.cmp .lss (.iv 26) (.lit (.ofNat 0)))) (.cmp .gtr (.iv 26) (.lit (.ofNat 100)))) (.lit (.ofNat 1)) (.lit (.ofNat 0)))))
def ss9 : List SV := [.agg [.ci .i64 (.iv 0), .cb (.bv 1), .cb (.bv 2), .ci .u8 (.iv 3), .ci .u8 (.iv 4), .ci .u8 (.iv 5), .ci .u8 (.iv 6), .ci .u8 (.iv 7), .ci .u8 (.iv 8), .ci .i64 (.iv 9), .ci .u8 (.iv 10), .ci .u8 (.iv 11), .ci .u8 (.iv 12), .ci .u8 (.iv 13), .ci .u8 (.iv 14), .ci .u8 (.iv 15), .ci .u8 (.iv 16), .ci .u8 (.iv 17), .ci .u8 (.iv 18), .ci .u8 (.iv 19), .ci .u8 (.iv 20), .ci .u8 (.iv 21), .ci .u8 (.iv 22), .cb (.bv 23), .cb (.bv 24), .cb (.bv 25), .ci .i64 (.iv 26)]]
def ks9 : List LK := [.i .i64, .b, .b, .i .u8, .i .u8, .i .u8, .i .u8, .i .u8, .i .u8, .i .i64, .i .u8, .i .u8, .i .u8, .i .u8, .i .u8, .i .u8, .i .u8, .i .u8, .i .u8, .i .u8, .i .u8, .i .u8, .i .u8, .b, .b, .b, .i .i64]
theorem args9 : argTs Try.prog Try.f9.params.toList 0 = some (ss9, ks9) := by kernel_rfl
theorem tree9 : tree Try.prog 12 (sumsIn sums21) 300 9 ss9 bare 0 ⟨ks9.map LK.rg, []⟩ = .leaf v9 := by kernel_rfl
def sums9 : List Sm := ⟨9, ss9, ks9, v9⟩ :: sums21
theorem sok9 : SumsOk Try.prog sums9 := sums_cons mixed sok21 args9 tree9 (by kernel_rfl)
def x15_9 : X := .not (.or (.and (.cmp .geq (.iv 0) (.lit (.ofNat 0))) (.cmp .leq (.iv 0) (.lit (.ofNat 4)))) (.cmp .eql (.iv 0) (.lit (.ofNat 7))))
def x15_12 : X := .bin .quo .i64 (.iv 2) (.lit (.ofNat 16384))
def x15_14 : X := .cmp .eql x15_12 (.lit (.ofNat 1))
def x15_15 : X := .not x15_14
def x15_17 : X := .cmp .eql x15_12 (.lit (.ofNat 2))
def x15_19 : X := .not x15_17
def x15_20 : X := .cmp .eql x15_12 (.lit (.ofNat 4))
def x15_23 : X := .not x15_20
def x15_25 : X := .cmp .eql x15_12 (.lit (.ofNat 8))
def x15_30 : X := .not x15_25
def x15_32 : X := .cmp .eql x15_12 (.lit (.ofNat 16))
def x15_53 : X := .cmp .geq (.ite x15_14 (.lit (.ofNat 0)) (.ite (.and x15_15 x15_17) (.lit (.ofNat 1)) (.ite (.and x15_15 (.and x15_19 x15_20)) (.lit (.ofNat 2)) (.ite (.and x15_15 (.and x15_19 (.and x15_23 x15_25))) (.lit (.ofNat 3)) (.ite (.and x15_15 (.and x15_19 (.and x15_23 (.and x15_30 x15_32)))) (.lit (.ofNat 4)) (.ite (.and x15_15 (.and x15_19 (.and x15_23 (.and x15_30 (.and (.not x15_32) (.cmp .eql x15_12 (.lit (.ofNat 32)))))))) (.lit (.ofNat 5)) (.lit (.negSucc 0)))))))) (.lit (.ofNat 0))
def x15_60 : X := .bin .quo .i64 (.iv 3) (.lit (.ofNat 8192))
def x15_61 : X := .cmp .eql x15_60 (.lit (.ofNat 1))
def x15_62 : X := .not x15_61
def x15_63 : X := .cmp .eql x15_60 (.lit (.ofNat 2))
def x15_65 : X := .not x15_63
def x15_66 : X := .cmp .eql x15_60 (.lit (.ofNat 4))
def x15_69 : X := .not x15_66
def x15_70 : X := .cmp .eql x15_60 (.lit (.ofNat 8))
def x15_74 : X := .not x15_70
def x15_75 : X := .cmp .eql x15_60 (.lit (.ofNat 16))
def x15_93 : X := .cmp .geq (.ite x15_61 (.lit (.ofNat 0)) (.ite (.and x15_62 x15_63) (.lit (.ofNat 1)) (.ite (.and x15_62 (.and x15_65 x15_66)) (.lit (.ofNat 2)) (.ite (.and x15_62 (.and x15_65 (.and x15_69 x15_70))) (.lit (.ofNat 3)) (.ite (.and x15_62 (.and x15_65 (.and x15_69 (.and x15_74 x15_75)))) (.lit (.ofNat 4)) (.ite (.and x15_62 (.and x15_65 (.and x15_69 (.and x15_74 (.and (.not x15_75) (.cmp .eql x15_60 (.lit (.ofNat 32)))))))) (.lit (.ofNat 5)) (.lit (.negSucc 0)))))))) (.lit (.ofNat 0))
def x15_102 : X := .or (.or (.not (.and x15_53 (.cmp .eql (.bin .rem .i64 (.iv 2) (.lit (.ofNat 16384))) (.lit (.ofNat 0))))) (.not (.and x15_93 (.cmp .eql (.bin .rem .i64 (.iv 3) (.lit (.ofNat 8192))) (.lit (.ofNat 0)))))) (.and (.bv 8) (.cmp .neq (.iv 3) (.lit (.ofNat 8192))))
def x15_118 : X := .ite (.or x15_9 (.or x15_102 (.or (.or (.cmp .lss (.iv 1) (.lit (.ofNat 0))) (.cmp .gtr (.iv 1) (.lit (.ofNat 15)))) (.and (.not (.bv 7)) (.cmp .neq (.iv 1) (.lit (.ofNat 0))))))) (.ite x15_9 (.lit (.ofNat 6)) (.ite x15_102 (.lit (.ofNat 5)) (.lit (.ofNat 1)))) (.lit (.ofNat 0))
def x15_119 : X := .cmp .neq x15_118 (.lit (.ofNat 0))
def x15_121 : X := .not x15_119
def v15 : ST := .tup [.agg [.ci .i64 (.ite x15_119 (.lit (.ofNat 0)) (.iv 0)), .cb (.and x15_121 (.bv 6)), .cb (.and x15_121 (.bv 5)), .ci .u8 (.lit (.ofNat 0)), .ci .u8 (.lit (.ofNat 0)), .ci .u8 (.ite x15_119 (.lit (.ofNat 0)) (.lit (.ofNat 12))), .ci .u8 (.lit (.ofNat 0)), .ci .u8 (.lit (.ofNat 0)), .ci .u8 (.lit (.ofNat 0)), .ci .i64 (.ite x15_119 (.lit (.ofNat 0)) (.lit (.negSucc 1))), .ci .u8 (.lit (.ofNat 0)), .ci .u8 (.lit (.ofNat 0)), .ci .u8 (.lit (.ofNat 0)), .ci .u8 (.lit (.ofNat 0)), .ci .u8 (.lit (.ofNat 0)), .ci .u8 (.lit (.ofNat 0)), .ci .u8 (.lit (.ofNat 0)), .ci .u8 (.lit (.ofNat 0)), .ci .u8 (.lit (.ofNat 0)), .ci .u8 (.lit (.ofNat 0)), .ci .u8 (.lit (.ofNat 0)), .ci .u8 (.lit (.ofNat 0)), .ci .u8 (.lit (.ofNat 0)), .cb (.bl false), .cb (.bl false), .cb (.bl false), .ci .i64 (.lit (.ofNat 0))], .c (.ci .i64 (.ite x15_119 x15_118 (.lit (.ofNat 0))))]
def ss15 : List SV := [.agg [.ci .i64 (.iv 0), .ci .i64 (.iv 1), .ci .i64 (.iv 2), .ci .i64 (.iv 3), .cb (.bv 4), .cb (.bv 5), .cb (.bv 6), .cb (.bv 7), .cb (.bv 8)]]
def ks15 : List LK := [.i .i64, .i .i64, .i .i64, .i .i64, .b, .b, .b, .b, .b]
theorem args15 : argTs Try.prog Try.f15.params.toList 0 = some (ss15, ks15) := by kernel_rfl
theorem tree15 : tree Try.prog 12 (sumsIn sums9) 300 15 ss15 bare 0 ⟨ks15.map LK.rg, []⟩ = .leaf v15 := by kernel_rfl
def sums15 : List Sm := ⟨15, ss15, ks15, v15⟩ :: sums9
theorem sok15 : SumsOk Try.prog sums15 := sums_cons mixed sok9 args15 tree15 (by kernel_rfl)
def v13 : ST := .v (.agg [.ci .i64 (.iv 0), .cb (.bl false), .cb (.bl false), .ci .u8 (.lit (.ofNat 0)), .ci .u8 (.lit (.ofNat 0)), .ci .u8 (.lit (.ofNat 12)), .ci .u8 (.lit (.ofNat 0)), .ci .u8 (.lit (.ofNat 0)), .ci .u8 (.lit (.ofNat 0)), .ci .i64 (.lit (.negSucc 1)), .ci .u8 (.lit (.ofNat 0)), .ci .u8 (.lit (.ofNat 0)), .ci .u8 (.lit (.ofNat 0)), .ci .u8 (.lit (.ofNat 0)), .ci .u8 (.lit (.ofNat 0)), .ci .u8 (.lit (.ofNat 0)), .ci .u8 (.lit (.ofNat 0)), .ci .u8 (.lit (.ofNat 0)), .ci .u8 (.lit (.ofNat 0)), .ci .u8 (.lit (.ofNat 0)), .ci .u8 (.lit (.ofNat 0)), .ci .u8 (.lit (.ofNat 0)), .ci .u8 (.lit (.ofNat 0)), .cb (.bl false), .cb (.bl false), .cb (.bl false), .ci .i64 (.lit (.ofNat 0))])
def ss13 : List SV := [.c (.ci .i64 (.iv 0))]
def ks13 : List LK := [.i .i64]
theorem args13 : argTs Try.prog Try.f13.params.toList 0 = some (ss13, ks13) := by kernel_rfl
theorem tree13 : tree Try.prog 12 (sumsIn sums15) 300 13 ss13 bare 0 ⟨ks13.map LK.rg, []⟩ = .leaf v13 := by kernel_rfl
def sums13 : List Sm := ⟨13, ss13, ks13, v13⟩ :: sums15
theorem sok13 : SumsOk Try.prog sums13 := sums_cons mixed sok15 args13 tree13 (by kernel_rfl)
def v10 : ST := .v (.c (.cb (.bl true)))
def ss10 : List SV := []
def ks10 : List LK := []
theorem args10 : argTs Try.prog Try.f10.params.toList 0 = some (ss10, ks10) := by kernel_rfl
theorem tree10 : tree Try.prog 12 (sumsIn sums13) 300 10 ss10 bare 0 ⟨ks10.map LK.rg, []⟩ = .leaf v10 := by kernel_rfl
def sums10 : List Sm := ⟨10, ss10, ks10, v10⟩ :: sums13
theorem sok10 : SumsOk Try.prog sums10 := sums_cons mixed sok13 args10 tree10 (by kernel_rfl)
def x14_30 : X := .not (.or (.and (.cmp .geq (.iv 0) (.lit (.ofNat 0))) (.cmp .leq (.iv 0) (.lit (.ofNat 4)))) (.cmp .eql (.iv 0) (.lit (.ofNat 7))))
def x14_37 : X := .ite (.cmp .gtr (.iv 5) (.iv 3)) (.iv 5) (.iv 3)
def x14_39 : X := .ite (.cmp .gtr (.iv 6) x14_37) (.iv 6) x14_37
def x14_41 : X := .ite (.cmp .gtr (.iv 7) x14_39) (.iv 7) x14_39
def x14_55 : X := .or (.or (.or (.or (.cmp .neq (.ite x14_30 (.ite x14_30 (.lit (.ofNat 6)) (.lit (.ofNat 1))) (.lit (.ofNat 0))) (.lit (.ofNat 0))) (.cmp .geq (.ite (.cmp .gtr (.iv 8) x14_41) (.iv 8) x14_41) (.lit (.ofNat 32)))) (.cmp .geq (.iv 4) (.lit (.ofNat 5)))) (.cmp .lss (.iv 26) (.lit (.ofNat 0)))) (.cmp .gtr (.iv 26) (.lit (.ofNat 100)))
def x14_56 : X := .cmp .neq (.iv 0) (.lit (.ofNat 4))
def x14_60 : X := .or x14_55 (.or x14_56 (.not (.bv 27)))
def x14_63 : X := .cmp .geq (.iv 26) (.lit (.ofNat 8))
def x14_68 : X := .ite (.or (.cmp .eql (.iv 22) (.lit (.ofNat 0))) (.bv 23)) (.iv 21) (.bin .sub .u8 (.iv 22) (.lit (.ofNat 1)))
def x14_81 : X := .bin .add .i64 (.iv 26) (.lit (.ofNat 1))
def v14 : ST := .tup [.agg [.ci .i64 (.iv 0), .cb (.bv 1), .cb (.bv 2), .ci .u8 (.iv 3), .ci .u8 (.iv 4), .ci .u8 (.iv 5), .ci .u8 (.iv 6), .ci .u8 (.iv 7), .ci .u8 (.iv 8), .ci .i64 (.iv 9), .ci .u8 (.iv 10), .ci .u8 (.iv 11), .ci .u8 (.iv 12), .ci .u8 (.iv 13), .ci .u8 (.iv 14), .ci .u8 (.iv 15), .ci .u8 (.iv 16), .ci .u8 (.iv 17), .ci .u8 (.iv 18), .ci .u8 (.iv 19), .ci .u8 (.iv 20), .ci .u8 (.iv 21), .ci .u8 (.ite x14_60 (.iv 22) (.ite x14_63 x14_68 (.iv 22))), .cb (.ite x14_60 (.bv 23) (.and (.not x14_63) (.bv 23))), .cb (.bv 24), .cb (.ite x14_60 (.bv 25) (.ite x14_63 (.or (.bv 25) (.and (.cmp .eql x14_68 (.lit (.ofNat 0))) (.bv 24))) (.bv 25))), .ci .i64 (.ite x14_60 (.ite x14_55 (.iv 26) (.ite x14_56 (.iv 26) (.ite (.cmp .lss (.lit (.ofNat 100)) x14_81) (.lit (.ofNat 100)) x14_81))) (.lit (.ofNat 0)))], .c (.ci .i64 (.ite x14_60 (.ite x14_55 (.lit (.ofNat 1)) (.lit (.ofNat 0))) (.lit (.ofNat 0))))]
def ss14 : List SV := [.agg [.ci .i64 (.iv 0), .cb (.bv 1), .cb (.bv 2), .ci .u8 (.iv 3), .ci .u8 (.iv 4), .ci .u8 (.iv 5), .ci .u8 (.iv 6), .ci .u8 (.iv 7), .ci .u8 (.iv 8), .ci .i64 (.iv 9), .ci .u8 (.iv 10), .ci .u8 (.iv 11), .ci .u8 (.iv 12), .ci .u8 (.iv 13), .ci .u8 (.iv 14), .ci .u8 (.iv 15), .ci .u8 (.iv 16), .ci .u8 (.iv 17), .ci .u8 (.iv 18), .ci .u8 (.iv 19), .ci .u8 (.iv 20), .ci .u8 (.iv 21), .ci .u8 (.iv 22), .cb (.bv 23), .cb (.bv 24), .cb (.bv 25), .ci .i64 (.iv 26)], .c (.cb (.bv 27))]
def ks14 : List LK := [.i .i64, .b, .b, .i .u8, .i .u8, .i .u8, .i .u8, .i .u8, .i .u8, .i .i64, .i .u8, .i .u8, .i .u8, .i .u8, .i .u8, .i .u8, .i .u8, .i .u8, .i .u8, .i .u8, .i .u8, .i .u8, .i .u8, .b, .b, .b, .i .i64, .b]
theorem args14 : argTs Try.prog Try.f14.params.toList 0 = some (ss14, ks14) := by kernel_rfl
theorem tree14 : tree Try.prog 12 (sumsIn sums10) 300 14 ss14 bare 0 ⟨ks14.map LK.rg, []⟩ = .leaf v14 := by kernel_rfl
def sums14 : List Sm := ⟨14, ss14, ks14, v14⟩ :: sums10
theorem sok14 : SumsOk Try.prog sums14 := sums_cons mixed sok10 args14 tree14 (by kernel_rfl)
def x12_2 : X := .cmp .eql (.iv 0) (.lit (.ofNat 1))
def x12_4 : X := .cmp .eql (.iv 0) (.lit (.ofNat 7))
def x12_13 : X := .bin .and .u8 (.iv 5) (.lit (.ofNat 3))
def v12 : ST := .v (.c (.ci .i64 (.ite (.or x12_2 (.or x12_4 (.or (.bv 2) (.cmp .eql (.iv 0) (.lit (.ofNat 4)))))) (.ite x12_2 (.ite (.cmp .eql x12_13 (.lit (.ofNat 0))) (.lit (.ofNat 2)) (.ite (.cmp .eql x12_13 (.lit (.ofNat 1))) (.lit (.ofNat 3)) (.ite (.cmp .eql x12_13 (.lit (.ofNat 2))) (.lit (.ofNat 1)) (.lit (.ofNat 0))))) (.ite x12_4 (.bin .add .i64 (.lit (.ofNat 2)) (.bin .and .u8 (.bin .shr .u8 (.iv 10) (.lit (.ofNat 4))) (.lit (.ofNat 1)))) (.ite (.bv 2) (.lit (.ofNat 4)) (.bin .sub .i64 (.lit (.ofNat 1)) (.bin .and .u8 (.iv 12) (.lit (.ofNat 1))))))) (.ite (.bv 1) (.lit (.ofNat 1)) (.lit (.ofNat 0))))))
def ss12 : List SV := [.agg [.ci .i64 (.iv 0), .cb (.bv 1), .cb (.bv 2), .ci .u8 (.iv 3), .ci .u8 (.iv 4), .ci .u8 (.iv 5), .ci .u8 (.iv 6), .ci .u8 (.iv 7), .ci .u8 (.iv 8), .ci .i64 (.iv 9), .ci .u8 (.iv 10), .ci .u8 (.iv 11), .ci .u8 (.iv 12), .ci .u8 (.iv 13), .ci .u8 (.iv 14), .ci .u8 (.iv 15), .ci .u8 (.iv 16), .ci .u8 (.iv 17), .ci .u8 (.iv 18), .ci .u8 (.iv 19), .ci .u8 (.iv 20), .ci .u8 (.iv 21), .ci .u8 (.iv 22), .cb (.bv 23), .cb (.bv 24), .cb (.bv 25), .ci .i64 (.iv 26)]]
def ks12 : List LK := [.i .i64, .b, .b, .i .u8, .i .u8, .i .u8, .i .u8, .i .u8, .i .u8, .i .i64, .i .u8, .i .u8, .i .u8, .i .u8, .i .u8, .i .u8, .i .u8, .i .u8, .i .u8, .i .u8, .i .u8, .i .u8, .i .u8, .b, .b, .b, .i .i64]
theorem args12 : argTs Try.prog Try.f12.params.toList 0 = some (ss12, ks12) := by kernel_rfl
theorem tree12 : tree Try.prog 12 (sumsIn sums14) 300 12 ss12 bare 0 ⟨ks12.map LK.rg, []⟩ = .leaf v12 := by kernel_rfl
def sums12 : List Sm := ⟨12, ss12, ks12, v12⟩ :: sums14
theorem sok12 : SumsOk Try.prog sums12 := sums_cons mixed sok14 args12 tree12 (by kernel_rfl)
def ss8 : List SV := [.agg [.ci .i64 (.iv 0), .cb (.bv 1), .cb (.bv 2), .ci .u8 (.iv 3), .ci .u8 (.iv 4), .ci .u8 (.iv 5), .ci .u8 (.iv 6), .ci .u8 (.iv 7), .ci .u8 (.iv 8), .ci .i64 (.iv 9), .ci .u8 (.iv 10), .ci .u8 (.iv 11), .ci .u8 (.iv 12), .ci .u8 (.iv 13), .ci .u8 (.iv 14), .ci .u8 (.iv 15), .ci .u8 (.iv 16), .ci .u8 (.iv 17), .ci .u8 (.iv 18), .ci .u8 (.iv 19), .ci .u8 (.iv 20), .ci .u8 (.iv 21), .ci .u8 (.iv 22), .cb (.bv 23), .cb (.bv 24), .cb (.bv 25), .ci .i64 (.iv 26)], .c (.xs 54198714210720287757989138915751634950206694428928 (.lit 0) (.iv 27) (.iv 28))]
def ks8 : List LK := [.i .i64, .b, .b, .i .u8, .i .u8, .i .u8, .i .u8, .i .u8, .i .u8, .i .i64, .i .u8, .i .u8, .i .u8, .i .u8, .i .u8, .i .u8, .i .u8, .i .u8, .i .u8, .i .u8, .i .u8, .i .u8, .i .u8, .b, .b, .b, .i .i64, .i .i64, .i .i64]
def rs8 : List RowV := [(54198714210720287757989138915751634950206694428928, 27)]
theorem args8 : argRs Try.prog Try.f8.params.toList 0 0 = some (ss8, ks8, rs8) := by kernel_rfl
def T (l : List (Nat × Ann)) (M : Go.Sx.Mode) (K : Known) : Prop := vcF Try.prog 0 (sumsIn sums12) 300 2 l M 8 ss8 K = true
def V (K : Known) : Prop := X.prove 20 60 K (.bl false) = true
def c_0 : X := .cmp .lss (.iv 26) (.lit (.ofNat 0))
def c_1 : X := .cmp .gtr (.iv 26) (.lit (.ofNat 100))
def c_2 : X := .cmp .geq (.iv 4) (.lit (.ofNat 5))
def c_3 : X := .cmp .geq (.ite (.cmp .gtr (.iv 8) (.ite (.cmp .gtr (.iv 7) (.ite (.cmp .gtr (.iv 6) (.ite (.cmp .gtr (.iv 5) (.iv 3)) (.iv 5) (.iv 3))) (.iv 6) (.ite (.cmp .gtr (.iv 5) (.iv 3)) (.iv 5) (.iv 3)))) (.iv 7) (.ite (.cmp .gtr (.iv 6) (.ite (.cmp .gtr (.iv 5) (.iv 3)) (.iv 5) (.iv 3))) (.iv 6) (.ite (.cmp .gtr (.iv 5) (.iv 3)) (.iv 5) (.iv 3))))) (.iv 8) (.ite (.cmp .gtr (.iv 7) (.ite (.cmp .gtr (.iv 6) (.ite (.cmp .gtr (.iv 5) (.iv 3)) (.iv 5) (.iv 3))) (.iv 6) (.ite (.cmp .gtr (.iv 5) (.iv 3)) (.iv 5) (.iv 3)))) (.iv 7) (.ite (.cmp .gtr (.iv 6) (.ite (.cmp .gtr (.iv 5) (.iv 3)) (.iv 5) (.iv 3))) (.iv 6) (.ite (.cmp .gtr (.iv 5) (.iv 3)) (.iv 5) (.iv 3))))) (.lit (.ofNat 32))
def c_4 : X := .cmp .gtr (.iv 5) (.iv 3)
def c_5 : X := .cmp .gtr (.iv 6) (.iv 5)
def c_6 : X := .cmp .gtr (.iv 7) (.iv 6)
def c_7 : X := .cmp .gtr (.iv 8) (.iv 7)
def c_8 : X := .cmp .geq (.iv 8) (.lit (.ofNat 32))
def c_9 : X := .cmp .geq (.iv 7) (.lit (.ofNat 32))
def c_10 : X := .cmp .gtr (.iv 8) (.iv 6)
def c_11 : X := .cmp .geq (.iv 6) (.lit (.ofNat 32))
def c_12 : X := .cmp .gtr (.iv 7) (.iv 5)
def c_13 : X := .cmp .gtr (.iv 8) (.iv 5)
def c_14 : X := .cmp .geq (.iv 5) (.lit (.ofNat 32))
def c_15 : X := .cmp .gtr (.iv 6) (.iv 3)
def c_16 : X := .cmp .gtr (.iv 7) (.iv 3)
def c_17 : X := .cmp .gtr (.iv 8) (.iv 3)
def c_18 : X := .cmp .geq (.iv 3) (.lit (.ofNat 32))
def c_19 : X := .cmp .lss (.iv 0) (.lit (.ofNat 0))
def c_20 : X := .cmp .gtr (.iv 0) (.lit (.ofNat 7))
def c_21 : X := .cmp .eql (.iv 0) (.lit (.ofNat 5))
def c_22 : X := .cmp .eql (.iv 0) (.lit (.ofNat 6))
def c_23 : X := .cmp .eql (.iv 0) (.lit (.ofNat 0))
def c_24 : X := .cmp .eql (.iv 0) (.lit (.ofNat 1))
def c_25 : X := .cmp .eql (.iv 0) (.lit (.ofNat 2))
def c_26 : X := .cmp .eql (.iv 0) (.lit (.ofNat 3))
def c_27 : X := .cmp .eql (.iv 0) (.lit (.ofNat 4))
def c_28 : X := .cmp .eql (.iv 0) (.lit (.ofNat 7))
def K_0 : Known := addRows rs8 ⟨ks8.map LK.rg, []⟩
def K_1 : Known := K_0.assume c_0 true
def K_2 : Known := K_0.assume c_0 false
def K_3 : Known := K_2.assume c_1 true
def K_4 : Known := K_2.assume c_1 false
def K_5 : Known := K_4.assume c_2 true
def K_6 : Known := K_4.assume c_2 false
def K_7 : Known := K_6.assume c_3 true
def K_8 : Known := K_7.assume c_4 true
def K_9 : Known := K_8.assume c_5 true
def K_10 : Known := K_9.assume c_6 true
def K_11 : Known := K_10.assume c_7 true
def K_12 : Known := K_11.assume c_8 true
def K_13 : Known := K_10.assume c_7 false
def K_14 : Known := K_13.assume c_9 true
def K_15 : Known := K_9.assume c_6 false
def K_16 : Known := K_15.assume c_10 true
def K_17 : Known := K_16.assume c_8 true
def K_18 : Known := K_15.assume c_10 false
def K_19 : Known := K_18.assume c_11 true
def K_20 : Known := K_8.assume c_5 false
def K_21 : Known := K_20.assume c_12 true
def K_22 : Known := K_21.assume c_7 true
def K_23 : Known := K_22.assume c_8 true
def K_24 : Known := K_21.assume c_7 false
def K_25 : Known := K_24.assume c_9 true
def K_26 : Known := K_20.assume c_12 false
def K_27 : Known := K_26.assume c_13 true
def K_28 : Known := K_27.assume c_8 true
def K_29 : Known := K_26.assume c_13 false
def K_30 : Known := K_29.assume c_14 true
def K_31 : Known := K_7.assume c_4 false
def K_32 : Known := K_31.assume c_15 true
def K_33 : Known := K_32.assume c_6 true
def K_34 : Known := K_33.assume c_7 true
def K_35 : Known := K_34.assume c_8 true
def K_36 : Known := K_33.assume c_7 false
def K_37 : Known := K_36.assume c_9 true
def K_38 : Known := K_32.assume c_6 false
def K_39 : Known := K_38.assume c_10 true
def K_40 : Known := K_39.assume c_8 true
def K_41 : Known := K_38.assume c_10 false
def K_42 : Known := K_41.assume c_11 true
def K_43 : Known := K_31.assume c_15 false
def K_44 : Known := K_43.assume c_16 true
def K_45 : Known := K_44.assume c_7 true
def K_46 : Known := K_45.assume c_8 true
def K_47 : Known := K_44.assume c_7 false
def K_48 : Known := K_47.assume c_9 true
def K_49 : Known := K_43.assume c_16 false
def K_50 : Known := K_49.assume c_17 true
def K_51 : Known := K_50.assume c_8 true
def K_52 : Known := K_49.assume c_17 false
def K_53 : Known := K_52.assume c_18 true
def K_54 : Known := K_6.assume c_3 false
def K_55 : Known := K_54.assume c_18 true
def K_56 : Known := K_54.assume c_18 false
def K_57 : Known := K_56.assume c_14 true
def K_58 : Known := K_56.assume c_14 false
def K_59 : Known := K_58.assume c_11 true
def K_60 : Known := K_58.assume c_11 false
def K_61 : Known := K_60.assume c_9 true
def K_62 : Known := K_60.assume c_9 false
def K_63 : Known := K_62.assume c_8 true
def K_64 : Known := K_62.assume c_8 false
def K_65 : Known := K_64.assume c_19 true
def K_66 : Known := K_64.assume c_19 false
def K_67 : Known := K_66.assume c_20 true
def K_68 : Known := K_66.assume c_20 false
def K_69 : Known := K_68.assume c_21 true
def K_70 : Known := K_68.assume c_21 false
def K_71 : Known := K_70.assume c_22 true
def K_72 : Known := K_70.assume c_22 false
def K_73 : Known := K_72.assume c_23 true
def K_74 : Known := K_72.assume c_23 false
def K_75 : Known := K_74.assume c_24 true
def K_76 : Known := K_74.assume c_24 false
def K_77 : Known := K_76.assume c_25 true
def K_78 : Known := K_76.assume c_25 false
def K_79 : Known := K_78.assume c_26 true
def K_80 : Known := K_78.assume c_26 false
def K_81 : Known := K_80.assume c_27 true
def K_82 : Known := K_80.assume c_27 false
def K_83 : Known := K_82.assume c_28 true
def K_84 : Known := K_82.assume c_28 false
def an_0 : Ann := ⟨[0, 3, 11, 12, 13, 14, 6, 7, 8, 9, 10, 15, 16, 17, 18, 19, 20, 21, 22, 23, 24, 25, 26, 27, 28, 29, 30, 31, 32, 33, 34, 35, 36, 37, 38, 39, 40, 41, 42, 43, 44, 45, 46, 47, 48, 49, 50, 51, 52, 53, 54, 55, 56, 57, 58, 59, 60, 61, 62, 63, 64, 65, 66, 67, 68, 69, 70, 71, 72, 73, 74, 75, 76, 77, 78, 79, 80, 81, 82, 83, 84, 85, 86, 87, 88, 89, 90, 91, 92, 93, 94, 95, 96, 97, 98, 99, 100], [3], [(4, .lit (.ofNat 0))], false, [], false, [some (0, 9223372036854775807), some (0, 9223372036854775807), some (0, 60), none, none, some (0, 31), some (0, 4), some (0, 31), some (0, 31), some (0, 31), some (0, 31), some (-9223372036854775808, 9223372036854775807), some (0, 255), some (0, 255), some (0, 255), some (0, 255), some (0, 255), some (0, 255), some (0, 255), some (0, 255), some (0, 255), some (0, 255), some (0, 255), some (0, 255), some (0, 255), none, none, none, some (0, 100)], [(.fb 3468717709486098416511304890608104636813228443551454 (.unit), true), (.cmp .eql (.iv 0) (.fi 3468717709486098416511304890608104636813228443551455 (.unit)), true), (.cmp .leq (.iv 0) (.iv 1), true)], .bin .sub .i64 (.lit (.ofNat 61)) (.iv 2)⟩
def an_1 : Ann := ⟨[0, 3, 11, 12, 13, 14, 6, 7, 8, 9, 10, 15, 16, 17, 18, 19, 20, 21, 22, 23, 24, 25, 26, 27, 28, 29, 30, 31, 32, 33, 34, 35, 36, 37, 38, 39, 40, 41, 42, 43, 44, 45, 46, 47, 48, 49, 50, 51, 52, 53, 54, 55, 56, 57, 58, 59, 60, 61, 62, 63, 64, 65, 66, 67, 68, 69, 70, 71, 72, 73, 74, 75, 76, 77, 78, 79, 80, 81, 82, 83, 84, 85, 86, 87, 88, 89, 90, 91, 92, 93, 94, 95, 96, 97, 98, 99, 100], [3], [(4, .lit (.ofNat 1))], false, [(.cmp .lss (.wrap .u16 (.fi 3468717709486098416511304890608104636813228443551428 (.iv 2))) (.lit (.ofNat 32768)), 0), (.bin .and .u16 (.bin .shr .u16 (.wrap .u16 (.fi 3468717709486098416511304890608104636813228443551428 (.iv 2))) (.lit (.ofNat 13))) (.lit (.ofNat 3)), 4), (.cmp .eql (.wrap .i64 (.fi 3468717709486098416511304890608104636813228443551430 (.iv 2))) (.bin .add .i64 (.iv 11) (.lit (.ofNat 1))), 0), (.cmp .gtr (.bin .and .u8 (.wrap .u8 (.fi 3468717709486098416511304890608104636813228443551429 (.iv 2))) (.lit (.ofNat 128))) (.lit (.ofNat 0)), 0), (.iv 6, 5)], false, [some (0, 9223372036854775807), some (0, 9223372036854775807), some (0, 60), none, none, some (0, 31), some (0, 4), some (0, 31), some (0, 31), some (0, 31), some (0, 31), some (-9223372036854775808, 9223372036854775807), some (0, 255), some (0, 255), some (0, 255), some (0, 255), some (0, 255), some (0, 255), some (0, 255), some (0, 255), some (0, 255), some (0, 255), some (0, 255), some (0, 255), some (0, 255), none, none, none, some (0, 100)], [(.fb 3468717709486098416511304890608104636813228443551454 (.unit), true), (.cmp .eql (.iv 0) (.fi 3468717709486098416511304890608104636813228443551455 (.unit)), true), (.cmp .leq (.iv 0) (.iv 1), true)], .bin .sub .i64 (.lit (.ofNat 61)) (.iv 2)⟩
def an_2 : Ann := ⟨[0, 3, 11, 12, 13, 14, 6, 7, 8, 9, 10, 15, 16, 17, 18, 19, 20, 21, 22, 23, 24, 25, 26, 27, 28, 29, 30, 31, 32, 33, 34, 35, 36, 37, 38, 39, 40, 41, 42, 43, 44, 45, 46, 47, 48, 49, 50, 51, 52, 53, 54, 55, 56, 57, 58, 59, 60, 61, 62, 63, 64, 65, 66, 67, 68, 69, 70, 71, 72, 73, 74, 75, 76, 77, 78, 79, 80, 81, 82, 83, 84, 85, 86, 87, 88, 89, 90, 91, 92, 93, 94, 95, 96, 97, 98, 99, 100], [3], [(4, .lit (.ofNat 2))], false, [], false, [some (0, 9223372036854775807), some (0, 9223372036854775807), some (0, 60), none, none, some (0, 31), some (0, 4), some (0, 31), some (0, 31), some (0, 31), some (0, 31), some (-9223372036854775808, 9223372036854775807), some (0, 255), some (0, 255), some (0, 255), some (0, 255), some (0, 255), some (0, 255), some (0, 255), some (0, 255), some (0, 255), some (0, 255), some (0, 255), some (0, 255), some (0, 255), none, none, none, some (0, 100)], [(.fb 3468717709486098416511304890608104636813228443551454 (.unit), true), (.cmp .eql (.iv 0) (.fi 3468717709486098416511304890608104636813228443551455 (.unit)), true), (.cmp .leq (.iv 0) (.iv 1), true)], .bin .sub .i64 (.lit (.ofNat 61)) (.iv 2)⟩
def an_3 : Ann := ⟨[0, 3, 11, 12, 13, 14, 6, 7, 8, 9, 10, 15, 16, 17, 18, 19, 20, 21, 22, 23, 24, 25, 26, 27, 28, 29, 30, 31, 32, 33, 34, 35, 36, 37, 38, 39, 40, 41, 42, 43, 44, 45, 46, 47, 48, 49, 50, 51, 52, 53, 54, 55, 56, 57, 58, 59, 60, 61, 62, 63, 64, 65, 66, 67, 68, 69, 70, 71, 72, 73, 74, 75, 76, 77, 78, 79, 80, 81, 82, 83, 84, 85, 86, 87, 88, 89, 90, 91, 92, 93, 94, 95, 96, 97, 98, 99, 100], [3], [(4, .lit (.ofNat 3))], false, [], false, [some (0, 9223372036854775807), some (0, 9223372036854775807), some (0, 60), none, none, some (0, 31), some (0, 4), some (0, 31), some (0, 31), some (0, 31), some (0, 31), some (-9223372036854775808, 9223372036854775807), some (0, 255), some (0, 255), some (0, 255), some (0, 255), some (0, 255), some (0, 255), some (0, 255), some (0, 255), some (0, 255), some (0, 255), some (0, 255), some (0, 255), some (0, 255), none, none, none, some (0, 100)], [(.fb 3468717709486098416511304890608104636813228443551454 (.unit), true), (.cmp .eql (.iv 0) (.fi 3468717709486098416511304890608104636813228443551455 (.unit)), true), (.cmp .leq (.iv 0) (.iv 1), true)], .bin .sub .i64 (.lit (.ofNat 61)) (.iv 2)⟩
def an_4 : Ann := ⟨[0, 3, 11, 12, 13, 14, 6, 7, 8, 9, 10, 15, 16, 17, 18, 19, 20, 21, 22, 23, 24, 25, 26, 27, 28, 29, 30, 31, 32, 33, 34, 35, 36, 37, 38, 39, 40, 41, 42, 43, 44, 45, 46, 47, 48, 49, 50, 51, 52, 53, 54, 55, 56, 57, 58, 59, 60, 61, 62, 63, 64, 65, 66, 67, 68, 69, 70, 71, 72, 73, 74, 75, 76, 77, 78, 79, 80, 81, 82, 83, 84, 85, 86, 87, 88, 89, 90, 91, 92, 93, 94, 95, 96, 97, 98, 99, 100], [3], [(4, .lit (.ofNat 4))], false, [(.bin .and .u16 (.bin .shr .u16 (.wrap .u16 (.fi 3468717709486098416511304890608104636813228443551428 (.iv 2))) (.lit (.ofNat 13))) (.lit (.ofNat 3)), 4), (.bin .and .u8 (.iv 13) (.lit (.ofNat 7)), 8), (.cmp .eql (.iv 28) (.lit (.ofNat 100)), 0)], false, [some (0, 9223372036854775807), some (0, 9223372036854775807), some (0, 60), none, none, some (0, 31), some (0, 4), some (0, 31), some (0, 31), some (0, 31), some (0, 31), some (-9223372036854775808, 9223372036854775807), some (0, 255), some (0, 255), some (0, 255), some (0, 255), some (0, 255), some (0, 255), some (0, 255), some (0, 255), some (0, 255), some (0, 255), some (0, 255), some (0, 255), some (0, 255), none, none, none, some (0, 100)], [(.fb 3468717709486098416511304890608104636813228443551454 (.unit), true), (.cmp .eql (.iv 0) (.fi 3468717709486098416511304890608104636813228443551455 (.unit)), true), (.cmp .leq (.iv 0) (.iv 1), true)], .bin .sub .i64 (.lit (.ofNat 61)) (.iv 2)⟩
def an_5 : Ann := ⟨[0, 3, 11, 12, 13, 14, 6, 7, 8, 9, 10, 15, 16, 17, 18, 19, 20, 21, 22, 23, 24, 25, 26, 27, 28, 29, 30, 31, 32, 33, 34, 35, 36, 37, 38, 39, 40, 41, 42, 43, 44, 45, 46, 47, 48, 49, 50, 51, 52, 53, 54, 55, 56, 57, 58, 59, 60, 61, 62, 63, 64, 65, 66, 67, 68, 69, 70, 71, 72, 73, 74, 75, 76, 77, 78, 79, 80, 81, 82, 83, 84, 85, 86, 87, 88, 89, 90, 91, 92, 93, 94, 95, 96, 97, 98, 99, 100], [3], [(4, .lit (.ofNat 7))], false, [], false, [some (0, 9223372036854775807), some (0, 9223372036854775807), some (0, 60), none, none, some (0, 31), some (0, 4), some (0, 31), some (0, 31), some (0, 31), some (0, 31), some (-9223372036854775808, 9223372036854775807), some (0, 255), some (0, 255), some (0, 255), some (0, 255), some (0, 255), some (0, 255), some (0, 255), some (0, 255), some (0, 255), some (0, 255), some (0, 255), some (0, 255), some (0, 255), none, none, none, some (0, 100)], [(.fb 3468717709486098416511304890608104636813228443551454 (.unit), true), (.cmp .eql (.iv 0) (.fi 3468717709486098416511304890608104636813228443551455 (.unit)), true), (.cmp .leq (.iv 0) (.iv 1), true)], .bin .sub .i64 (.lit (.ofNat 61)) (.iv 2)⟩
end Go.Proofs.Ytnjjdakmpkddhaa
