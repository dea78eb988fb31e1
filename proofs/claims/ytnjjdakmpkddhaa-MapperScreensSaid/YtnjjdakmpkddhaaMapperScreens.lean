/- For every input MapperScreens answers true. -/
import Derived.Test.YtnjjdakmpkddhaaRows
import Derived.Test.YtnjjdakmpkddhaaSx21
namespace Go.Proofs.Ytnjjdakmpkddhaa
open Go.ChangeShapes Go.WideShapes Go.ChangeAt Go.RowKit Go.Sx

theorem own : ownKnob Try.prog.godebug = none := by kernel_rfl
theorem laid : laidOutB Try.prog = true := by kernel_rfl
theorem mixed : Try.prog.follows .mixedOrders = true := by kernel_rfl

def v26 : ST := .v (.c (.cb (.or (.and (.cmp .geq (.iv 0) (.lit (.ofNat 0))) (.cmp .leq (.iv 0) (.lit (.ofNat 4)))) (.cmp .eql (.iv 0) (.lit (.ofNat 7))))))
def ss26 : List SV := [.c (.ci .i64 (.iv 0))]
def ks26 : List LK := [.i .i64]
theorem args26 : argTs Try.prog Try.f26.params.toList 0 = some (ss26, ks26) := by kernel_rfl
theorem tree26 : tree Try.prog 12 (sumsIn []) 300 26 ss26 bare 0 ⟨ks26.map LK.rg, []⟩ = .leaf v26 := by kernel_rfl
def sums26 : List Sm := ⟨26, ss26, ks26, v26⟩ :: []
theorem sok26 : SumsOk Try.prog sums26 := sums_cons mixed sums_nil args26 tree26 (by kernel_rfl)
def x21_9 : X := .not (.or (.and (.cmp .geq (.iv 0) (.lit (.ofNat 0))) (.cmp .leq (.iv 0) (.lit (.ofNat 4)))) (.cmp .eql (.iv 0) (.lit (.ofNat 7))))
def x21_12 : X := .bin .quo .i64 (.iv 2) (.lit (.ofNat 16384))
def x21_14 : X := .cmp .eql x21_12 (.lit (.ofNat 1))
def x21_15 : X := .not x21_14
def x21_17 : X := .cmp .eql x21_12 (.lit (.ofNat 2))
def x21_19 : X := .not x21_17
def x21_20 : X := .cmp .eql x21_12 (.lit (.ofNat 4))
def x21_23 : X := .not x21_20
def x21_25 : X := .cmp .eql x21_12 (.lit (.ofNat 8))
def x21_30 : X := .not x21_25
def x21_32 : X := .cmp .eql x21_12 (.lit (.ofNat 16))
def x21_53 : X := .cmp .geq (.ite x21_14 (.lit (.ofNat 0)) (.ite (.and x21_15 x21_17) (.lit (.ofNat 1)) (.ite (.and x21_15 (.and x21_19 x21_20)) (.lit (.ofNat 2)) (.ite (.and x21_15 (.and x21_19 (.and x21_23 x21_25))) (.lit (.ofNat 3)) (.ite (.and x21_15 (.and x21_19 (.and x21_23 (.and x21_30 x21_32)))) (.lit (.ofNat 4)) (.ite (.and x21_15 (.and x21_19 (.and x21_23 (.and x21_30 (.and (.not x21_32) (.cmp .eql x21_12 (.lit (.ofNat 32)))))))) (.lit (.ofNat 5)) (.lit (.negSucc 0)))))))) (.lit (.ofNat 0))
def x21_60 : X := .bin .quo .i64 (.iv 3) (.lit (.ofNat 8192))
def x21_61 : X := .cmp .eql x21_60 (.lit (.ofNat 1))
def x21_62 : X := .not x21_61
def x21_63 : X := .cmp .eql x21_60 (.lit (.ofNat 2))
def x21_65 : X := .not x21_63
def x21_66 : X := .cmp .eql x21_60 (.lit (.ofNat 4))
def x21_69 : X := .not x21_66
def x21_70 : X := .cmp .eql x21_60 (.lit (.ofNat 8))
def x21_74 : X := .not x21_70
def x21_75 : X := .cmp .eql x21_60 (.lit (.ofNat 16))
def x21_93 : X := .cmp .geq (.ite x21_61 (.lit (.ofNat 0)) (.ite (.and x21_62 x21_63) (.lit (.ofNat 1)) (.ite (.and x21_62 (.and x21_65 x21_66)) (.lit (.ofNat 2)) (.ite (.and x21_62 (.and x21_65 (.and x21_69 x21_70))) (.lit (.ofNat 3)) (.ite (.and x21_62 (.and x21_65 (.and x21_69 (.and x21_74 x21_75)))) (.lit (.ofNat 4)) (.ite (.and x21_62 (.and x21_65 (.and x21_69 (.and x21_74 (.and (.not x21_75) (.cmp .eql x21_60 (.lit (.ofNat 32)))))))) (.lit (.ofNat 5)) (.lit (.negSucc 0)))))))) (.lit (.ofNat 0))
def x21_102 : X := .or (.or (.not (.and x21_53 (.cmp .eql (.bin .rem .i64 (.iv 2) (.lit (.ofNat 16384))) (.lit (.ofNat 0))))) (.not (.and x21_93 (.cmp .eql (.bin .rem .i64 (.iv 3) (.lit (.ofNat 8192))) (.lit (.ofNat 0)))))) (.and (.bv 8) (.cmp .neq (.iv 3) (.lit (.ofNat 8192))))
def v21 : ST := .v (.c (.ci .i64 (.ite (.or x21_9 (.or x21_102 (.or (.or (.cmp .lss (.iv 1) (.lit (.ofNat 0))) (.cmp .gtr (.iv 1) (.lit (.ofNat 15)))) (.and (.not (.bv 7)) (.cmp .neq (.iv 1) (.lit (.ofNat 0))))))) (.ite x21_9 (.lit (.ofNat 6)) (.ite x21_102 (.lit (.ofNat 5)) (.lit (.ofNat 1)))) (.lit (.ofNat 0)))))
def ss21 : List SV := [.agg [.ci .i64 (.iv 0), .ci .i64 (.iv 1), .ci .i64 (.iv 2), .ci .i64 (.iv 3), .cb (.bv 4), .cb (.bv 5), .cb (.bv 6), .cb (.bv 7), .cb (.bv 8)]]
def ks21 : List LK := [.i .i64, .i .i64, .i .i64, .i .i64, .b, .b, .b, .b, .b]
theorem args21 : argTs Try.prog Try.f21.params.toList 0 = some (ss21, ks21) := by kernel_rfl
theorem tree21 : tree Try.prog 12 (sumsIn sums26) 300 21 ss21 bare 0 ⟨ks21.map LK.rg, []⟩ = .leaf v21 := by kernel_rfl
def sums21 : List Sm := ⟨21, ss21, ks21, v21⟩ :: sums26
theorem sok21 : SumsOk Try.prog sums21 := sums_cons mixed sok26 args21 tree21 (by kernel_rfl)
def x9_9 : X := .not (.or (.and (.cmp .geq (.iv 0) (.lit (.ofNat 0))) (.cmp .leq (.iv 0) (.lit (.ofNat 4)))) (.cmp .eql (.iv 0) (.lit (.ofNat 7))))
def x9_21 : X := .ite (.cmp .gtr (.iv 5) (.iv 3)) (.iv 5) (.iv 3)
def x9_23 : X := .ite (.cmp .gtr (.iv 6) x9_21) (.iv 6) x9_21
def x9_25 : X := .ite (.cmp .gtr (.iv 7) x9_23) (.iv 7) x9_23
def v9 : ST := .v (.c (.ci .i64 (.ite (.or (.or (.or (.or (.cmp .neq (.ite x9_9 (.ite x9_9 (.lit (.ofNat 6)) (.lit (.ofNat 1))) (.lit (.ofNat 0))) (.lit (.ofNat 0))) (.cmp .geq (.ite (.cmp .gtr (.iv 8) x9_25) (.iv 8) x9_25) (.lit (.ofNat 32)))) (.cmp .geq (.iv 4) (.lit (.ofNat 5)))) (.cmp .lss (.iv 26) (.lit (.ofNat 0)))) (.cmp .gtr (.iv 26) (.lit (.ofNat 100)))) (.lit (.ofNat 1)) (.lit (.ofNat 0)))))
def ss9 : List SV := [.agg [.ci .i64 (.iv 0), .cb (.bv 1), .cb (.bv 2), .ci .u8 (.iv 3), .ci .u8 (.iv 4), .ci .u8 (.iv 5), .ci .u8 (.iv 6), .ci .u8 (.iv 7), .ci .u8 (.iv 8), .ci .i64 (.iv 9), .ci .u8 (.iv 10), .ci .u8 (.iv 11), .ci .u8 (.iv 12), .ci .u8 (.iv 13), .ci .u8 (.iv 14), .ci .u8 (.iv 15), .ci .u8 (.iv 16), .ci .u8 (.iv 17), .ci .u8 (.iv 18), .ci .u8 (.iv 19), .ci .u8 (.iv 20), .ci .u8 (.iv 21), .ci .u8 (.iv 22), .cb (.bv 23), .cb (.bv 24), .cb (.bv 25), .ci .i64 (.iv 26)]]
def ks9 : List LK := [.i .i64, .b, .b, .i .u8, .i .u8, .i .u8, .i .u8, .i .u8, .i .u8, .i .i64, .i .u8, .i .u8, .i .u8, .i .u8, .i .u8, .i .u8, .i .u8, .i .u8, .i .u8, .i .u8, .i .u8, .i .u8, .i .u8, .b, .b, .b, .i .i64]
theorem args9 : argTs Try.prog Try.f9.params.toList 0 = some (ss9, ks9) := by kernel_rfl
theorem tree9 : tree Try.prog 12 (sumsIn sums21) 300 9 ss9 bare 0 ⟨ks9.map LK.rg, []⟩ = .leaf v9 := by kernel_rfl
def sums9 : List Sm := ⟨9, ss9, ks9, v9⟩ :: sums21
theorem sok9 : SumsOk Try.prog sums9 := sums_cons mixed sok21 args9 tree9 (by kernel_rfl)
def x15_9 : X := .not (.or (.and (.cmp .geq (.iv 0) (.lit (.ofNat 0))) (.cmp .leq (.iv 0) (.lit (.ofNat 4)))) (.cmp .eql (.iv 0) (.lit (.ofNat 7))))
def x15_12 : X := .bin .quo .i64 (.iv 2) (.lit (.ofNat 16384))
def x15_14 : X := .cmp .eql x15_12 (.lit (.ofNat 1))
def x15_15 : X := .not x15_14
def x15_17 : X := .cmp .eql x15_12 (.lit (.ofNat 2))
def x15_19 : X := .not x15_17
def x15_20 : X := .cmp .eql x15_12 (.lit (.ofNat 4))
def x15_23 : X := .not x15_20
def x15_25 : X := .cmp .eql x15_12 (.lit (.ofNat 8))
def x15_30 : X := .not x15_25
def x15_32 : X := .cmp .eql x15_12 (.lit (.ofNat 16))
def x15_53 : X := .cmp .geq (.ite x15_14 (.lit (.ofNat 0)) (.ite (.and x15_15 x15_17) (.lit (.ofNat 1)) (.ite (.and x15_15 (.and x15_19 x15_20)) (.lit (.ofNat 2)) (.ite (.and x15_15 (.and x15_19 (.and x15_23 x15_25))) (.lit (.ofNat 3)) (.ite (.and x15_15 (.and x15_19 (.and x15_23 (.and x15_30 x15_32)))) (.lit (.ofNat 4)) (.ite (.and x15_15 (.and x15_19 (.and x15_23 (.and x15_30 (.and (.not x15_32) (.cmp .eql x15_12 (.lit (.ofNat 32)))))))) (.lit (.ofNat 5)) (.lit (.negSucc 0)))))))) (.lit (.ofNat 0))
def x15_60 : X := .bin .quo .i64 (.iv 3) (.lit (.ofNat 8192))
def x15_61 : X := .cmp .eql x15_60 (.lit (.ofNat 1))
def x15_62 : X := .not x15_61
def x15_63 : X := .cmp .eql x15_60 (.lit (.ofNat 2))
def x15_65 : X := .not x15_63
def x15_66 : X := .cmp .eql x15_60 (.lit (.ofNat 4))
def x15_69 : X := .not x15_66
def x15_70 : X := .cmp .eql x15_60 (.lit (.ofNat 8))
def x15_74 : X := .not x15_70
def x15_75 : X := .cmp .eql x15_60 (.lit (.ofNat 16))
def x15_93 : X := .cmp .geq (.ite x15_61 (.lit (.ofNat 0)) (.ite (.and x15_62 x15_63) (.lit (.ofNat 1)) (.ite (.and x15_62 (.and x15_65 x15_66)) (.lit (.ofNat 2)) (.ite (.and x15_62 (.and x15_65 (.and x15_69 x15_70))) (.lit (.ofNat 3)) (.ite (.and x15_62 (.and x15_65 (.and x15_69 (.and x15_74 x15_75)))) (.lit (.ofNat 4)) (.ite (.and x15_62 (.and x15_65 (.and x15_69 (.and x15_74 (.and (.not x15_75) (.cmp .eql x15_60 (.lit (.ofNat 32)))))))) (.lit (.ofNat 5)) (.lit (.negSucc 0)))))))) (.lit (.ofNat 0))
def x15_102 : X := .or (.or (.not (.and x15_53 (.cmp .eql (.bin .rem .i64 (.iv 2) (.lit (.ofNat 16384))) (.lit (.ofNat 0))))) (.not (.and x15_93 (.cmp .eql (.bin .rem .i64 (.iv 3) (.lit (.ofNat 8192))) (.lit (.ofNat 0)))))) (.and (.bv 8) (.cmp .neq (.iv 3) (.lit (.ofNat 8192))))
def x15_118 : X := .ite (.or x15_9 (.or x15_102 (.or (.or (.cmp .lss (.iv 1) (.lit (.ofNat 0))) (.cmp .gtr (.iv 1) (.lit (.ofNat 15)))) (.and (.not (.bv 7)) (.cmp .neq (.iv 1) (.lit (.ofNat 0))))))) (.ite x15_9 (.lit (.ofNat 6)) (.ite x15_102 (.lit (.ofNat 5)) (.lit (.ofNat 1)))) (.lit (.ofNat 0))
def x15_119 : X := .cmp .neq x15_118 (.lit (.ofNat 0))
def x15_121 : X := .not x15_119
def v15 : ST := .tup [.agg [.ci .i64 (.ite x15_119 (.lit (.ofNat 0)) (.iv 0)), .cb (.and x15_121 (.bv 6)), .cb (.and x15_121 (.bv 5)), .ci .u8 (.lit (.ofNat 0)), .ci .u8 (.lit (.ofNat 0)), .ci .u8 (.ite x15_119 (.lit (.ofNat 0)) (.lit (.ofNat 12))), .ci .u8 (.lit (.ofNat 0)), .ci .u8 (.lit (.ofNat 0)), .ci .u8 (.lit (.ofNat 0)), .ci .i64 (.ite x15_119 (.lit (.ofNat 0)) (.lit (.negSucc 1))), .ci .u8 (.lit (.ofNat 0)), .ci .u8 (.lit (.ofNat 0)), .ci .u8 (.lit (.ofNat 0)), .ci .u8 (.lit (.ofNat 0)), .ci .u8 (.lit (.ofNat 0)), .ci .u8 (.lit (.ofNat 0)), .ci .u8 (.lit (.ofNat 0)), .ci .u8 (.lit (.ofNat 0)), .ci .u8 (.lit (.ofNat 0)), .ci .u8 (.lit (.ofNat 0)), .ci .u8 (.lit (.ofNat 0)), .ci .u8 (.lit (.ofNat 0)), .ci .u8 (.lit (.ofNat 0)), .cb (.bl false), .cb (.bl false), .cb (.bl false), .ci .i64 (.lit (.ofNat 0))], .c (.ci .i64 (.ite x15_119 x15_118 (.lit (.ofNat 0))))]
def ss15 : List SV := [.agg [.ci .i64 (.iv 0), .ci .i64 (.iv 1), .ci .i64 (.iv 2), .ci .i64 (.iv 3), .cb (.bv 4), .cb (.bv 5), .cb (.bv 6), .cb (.bv 7), .cb (.bv 8)]]
def ks15 : List LK := [.i .i64, .i .i64, .i .i64, .i .i64, .b, .b, .b, .b, .b]
theorem args15 : argTs Try.prog Try.f15.params.toList 0 = some (ss15, ks15) := by kernel_rfl
theorem tree15 : tree Try.prog 12 (sumsIn sums9) 300 15 ss15 bare 0 ⟨ks15.map LK.rg, []⟩ = .leaf v15 := by kernel_rfl
def sums15 : List Sm := ⟨15, ss15, ks15, v15⟩ :: sums9
theorem sok15 : SumsOk Try.prog sums15 := sums_cons mixed sok9 args15 tree15 (by kernel_rfl)
def v13 : ST := .v (.agg [.ci .i64 (.iv 0), .cb (.bl false), .cb (.bl false), .ci .u8 (.lit (.ofNat 0)), .ci .u8 (.lit (.ofNat 0)), .ci .u8 (.lit (.ofNat 12)), .ci .u8 (.lit (.ofNat 0)), .ci .u8 (.lit (.ofNat 0)), .ci .u8 (.lit (.ofNat 0)), .ci .i64 (.lit (.negSucc 1)), .ci .u8 (.lit (.ofNat 0)), .ci .u8 (.lit (.ofNat 0)), .ci .u8 (.lit (.ofNat 0)), .ci .u8 (.lit (.ofNat 0)), .ci .u8 (.lit (.ofNat 0)), .ci .u8 (.lit (.ofNat 0)), .ci .u8 (.lit (.ofNat 0)), .ci .u8 (.lit (.ofNat 0)), .ci .u8 (.lit (.ofNat 0)), .ci .u8 (.lit (.ofNat 0)), .ci .u8 (.lit (.ofNat 0)), .ci .u8 (.lit (.ofNat 0)), .ci .u8 (.lit (.ofNat 0)), .cb (.bl false), .cb (.bl false), .cb (.bl false), .ci .i64 (.lit (.ofNat 0))])
def ss13 : List SV := [.c (.ci .i64 (.iv 0))]
def ks13 : List LK := [.i .i64]
theorem args13 : argTs Try.prog Try.f13.params.toList 0 = some (ss13, ks13) := by kernel_rfl
theorem tree13 : tree Try.prog 12 (sumsIn sums15) 300 13 ss13 bare 0 ⟨ks13.map LK.rg, []⟩ = .leaf v13 := by kernel_rfl
def sums13 : List Sm := ⟨13, ss13, ks13, v13⟩ :: sums15
theorem sok13 : SumsOk Try.prog sums13 := sums_cons mixed sok15 args13 tree13 (by kernel_rfl)
def x11_9 : X := .cmp .eql (.iv 0) (.lit (.ofNat 7))
def x11_11 : X := .not (.or (.and (.cmp .geq (.iv 0) (.lit (.ofNat 0))) (.cmp .leq (.iv 0) (.lit (.ofNat 4)))) x11_9)
def x11_23 : X := .ite (.cmp .gtr (.iv 5) (.iv 3)) (.iv 5) (.iv 3)
def x11_25 : X := .ite (.cmp .gtr (.iv 6) x11_23) (.iv 6) x11_23
def x11_27 : X := .ite (.cmp .gtr (.iv 7) x11_25) (.iv 7) x11_25
def x11_42 : X := .or (.or (.or (.or (.cmp .neq (.ite x11_11 (.ite x11_11 (.lit (.ofNat 6)) (.lit (.ofNat 1))) (.lit (.ofNat 0))) (.lit (.ofNat 0))) (.cmp .geq (.ite (.cmp .gtr (.iv 8) x11_27) (.iv 8) x11_27) (.lit (.ofNat 32)))) (.cmp .geq (.iv 4) (.lit (.ofNat 5)))) (.cmp .lss (.iv 26) (.lit (.ofNat 0)))) (.cmp .gtr (.iv 26) (.lit (.ofNat 100)))
def x11_45 : X := .cmp .lss (.iv 27) (.lit (.ofNat 32768))
def x11_46 : X := .cmp .eql (.iv 0) (.lit (.ofNat 1))
def x11_47 : X := .not x11_46
def x11_48 : X := .cmp .eql (.iv 0) (.lit (.ofNat 4))
def x11_61 : X := .or x11_46 (.and x11_47 (.and (.not x11_48) (.and (.not (.cmp .eql (.iv 0) (.lit (.ofNat 2)))) (.and (.not (.cmp .eql (.iv 0) (.lit (.ofNat 3)))) (.not x11_9)))))
def x11_63 : X := .or x11_61 (.and x11_47 x11_48)
def x11_67 : X := .cmp .eql (.iv 29) (.bin .add .i64 (.iv 9) (.lit (.ofNat 1)))
def x11_71 : X := .cmp .gtr (.bin .and .u8 (.iv 28) (.lit (.ofNat 128))) (.lit (.ofNat 0))
def x11_72 : X := .bin .add .u8 (.iv 4) (.lit (.ofNat 1))
def x11_73 : X := .cmp .lss x11_72 (.lit (.ofNat 5))
def x11_74 : X := .not x11_73
def x11_77 : X := .bin .and .u16 (.bin .shr .u16 (.iv 27) (.lit (.ofNat 13))) (.lit (.ofNat 3))
def x11_78 : X := .cmp .eql x11_77 (.lit (.ofNat 0))
def x11_81 : X := .or x11_67 (.or x11_71 (.and x11_74 x11_78))
def x11_82 : X := .not x11_67
def x11_83 : X := .not x11_71
def x11_84 : X := .not x11_78
def x11_85 : X := .cmp .eql x11_77 (.lit (.ofNat 1))
def x11_90 : X := .or x11_81 (.and x11_82 (.and x11_83 (.and x11_74 (.and x11_84 x11_85))))
def x11_94 : X := .and x11_82 (.and x11_83 x11_73)
def x11_99 : X := .bin .or .u8 (.bin .andNot .u8 (.iv 3) (.bin .shl .u8 (.lit (.ofNat 1)) (.iv 4))) (.bin .shl .u8 (.bin .and .u8 (.iv 28) (.lit (.ofNat 1))) (.iv 4))
def x11_135 : X := .cmp .eql x11_77 (.lit (.ofNat 2))
def x11_140 : X := .and x11_82 (.and x11_83 (.and x11_74 (.and x11_84 (.and (.not x11_85) x11_135))))
def x11_168 : X := .cmp .gtr (.bin .and .u16 (.iv 27) (.lit (.ofNat 1))) (.lit (.ofNat 0))
def x11_169 : X := .not x11_168
def x11_170 : X := .and x11_78 x11_169
def x11_171 : X := .bin .and .u8 (.iv 11) (.lit (.ofNat 7))
def x11_172 : X := .cmp .eql x11_171 (.lit (.ofNat 0))
def x11_174 : X := .or x11_170 (.or x11_84 x11_172)
def x11_175 : X := .not x11_170
def x11_176 : X := .not x11_172
def x11_177 : X := .cmp .eql x11_171 (.lit (.ofNat 1))
def x11_181 : X := .or x11_174 (.and x11_175 (.and x11_78 (.and x11_176 x11_177)))
def x11_190 : X := .and x11_85 x11_169
def x11_217 : X := .not x11_177
def x11_218 : X := .cmp .eql x11_171 (.lit (.ofNat 2))
def x11_222 : X := .and x11_175 (.and x11_78 (.and x11_176 (.and x11_217 x11_218)))
def x11_230 : X := .not x11_218
def x11_231 : X := .cmp .eql x11_171 (.lit (.ofNat 3))
def x11_236 : X := .and x11_175 (.and x11_78 (.and x11_176 (.and x11_217 (.and x11_230 x11_231))))
def x11_245 : X := .not x11_231
def x11_246 : X := .cmp .eql x11_171 (.lit (.ofNat 4))
def x11_252 : X := .and x11_175 (.and x11_78 (.and x11_176 (.and x11_217 (.and x11_230 (.and x11_245 x11_246)))))
def x11_262 : X := .not x11_246
def x11_263 : X := .cmp .eql x11_171 (.lit (.ofNat 5))
def x11_270 : X := .and x11_175 (.and x11_78 (.and x11_176 (.and x11_217 (.and x11_230 (.and x11_245 (.and x11_262 x11_263))))))
def x11_290 : X := .and x11_175 (.and x11_78 (.and x11_176 (.and x11_217 (.and x11_230 (.and x11_245 (.and x11_262 (.and (.not x11_263) (.cmp .eql x11_171 (.lit (.ofNat 6))))))))))
def x11_313 : X := .and x11_135 x11_169
def x11_349 : X := .cmp .eql x11_77 (.lit (.ofNat 3))
def x11_375 : X := .ite x11_42 (.bv 25) (.ite x11_45 (.bv 25) (.ite x11_63 (.ite x11_61 (.bv 25) (.ite x11_181 (.ite x11_174 (.ite x11_170 (.bv 25) (.ite x11_78 (.bv 25) (.ite x11_190 (.bv 25) (.ite x11_313 (.bv 25) (.ite x11_135 (.bv 25) (.ite x11_349 (.and (.bv 25) x11_168) (.bv 25))))))) (.bv 25)) (.bv 25))) (.bv 25)))
def v11 : ST := .tup [.agg [.ci .i64 (.iv 0), .cb (.bv 1), .cb (.bv 2), .ci .u8 (.ite x11_42 (.iv 3) (.ite x11_45 (.iv 3) (.ite x11_63 (.ite x11_61 (.ite x11_46 (.ite x11_90 (.ite x11_81 (.ite x11_67 (.iv 3) (.lit (.ofNat 0))) (.lit (.ofNat 0))) (.ite x11_94 x11_99 (.lit (.ofNat 0)))) (.iv 3)) (.iv 3)) (.iv 3)))), .ci .u8 (.ite x11_42 (.iv 4) (.ite x11_45 (.iv 4) (.ite x11_63 (.ite x11_61 (.ite x11_46 (.ite x11_90 (.ite x11_81 (.ite x11_67 (.iv 4) (.lit (.ofNat 0))) (.lit (.ofNat 0))) (.ite x11_94 x11_72 (.lit (.ofNat 0)))) (.iv 4)) (.iv 4)) (.iv 4)))), .ci .u8 (.ite x11_42 (.iv 5) (.ite x11_45 (.iv 5) (.ite x11_63 (.ite x11_61 (.ite x11_46 (.ite x11_90 (.ite x11_81 (.ite x11_67 (.iv 5) (.ite x11_71 (.bin .or .u8 (.iv 5) (.lit (.ofNat 12))) x11_99)) (.iv 5)) (.iv 5)) (.iv 5)) (.iv 5)) (.iv 5)))), .ci .u8 (.ite x11_42 (.iv 6) (.ite x11_45 (.iv 6) (.ite x11_63 (.ite x11_61 (.ite x11_46 (.ite x11_90 (.ite x11_81 (.iv 6) x11_99) (.iv 6)) (.iv 6)) (.iv 6)) (.iv 6)))), .ci .u8 (.ite x11_42 (.iv 7) (.ite x11_45 (.iv 7) (.ite x11_63 (.ite x11_61 (.ite x11_46 (.ite x11_90 (.iv 7) (.ite x11_94 (.iv 7) (.ite x11_140 x11_99 (.iv 7)))) (.iv 7)) (.iv 7)) (.iv 7)))), .ci .u8 (.ite x11_42 (.iv 8) (.ite x11_45 (.iv 8) (.ite x11_63 (.ite x11_61 (.ite x11_46 (.ite x11_90 (.iv 8) (.ite x11_94 (.iv 8) (.ite x11_140 (.iv 8) x11_99))) (.iv 8)) (.iv 8)) (.iv 8)))), .ci .i64 (.ite x11_42 (.iv 9) (.ite x11_45 (.iv 9) (.ite x11_63 (.ite x11_61 (.ite x11_46 (.iv 29) (.iv 9)) (.iv 9)) (.iv 9)))), .ci .u8 (.ite x11_42 (.iv 10) (.ite x11_45 (.iv 10) (.ite x11_63 (.iv 10) (.iv 28)))), .ci .u8 (.ite x11_42 (.iv 11) (.ite x11_45 (.iv 11) (.ite x11_63 (.ite x11_61 (.iv 11) (.ite x11_181 (.ite x11_174 (.ite x11_170 (.iv 28) (.iv 11)) (.iv 11)) (.iv 11))) (.iv 11)))), .ci .u8 (.ite x11_42 (.iv 12) (.ite x11_45 (.iv 12) (.ite x11_63 (.ite x11_61 (.iv 12) (.ite x11_181 (.ite x11_174 (.ite x11_170 (.iv 12) (.ite x11_78 (.iv 12) (.ite x11_190 (.iv 28) (.iv 12)))) (.iv 12)) (.iv 12))) (.iv 12)))), .ci .u8 (.ite x11_42 (.iv 13) (.ite x11_45 (.iv 13) (.ite x11_63 (.ite x11_61 (.iv 13) (.ite x11_181 (.ite x11_174 (.ite x11_170 (.iv 13) (.ite x11_78 (.iv 28) (.iv 13))) (.iv 13)) (.iv 13))) (.iv 13)))), .ci .u8 (.ite x11_42 (.iv 14) (.ite x11_45 (.iv 14) (.ite x11_63 (.ite x11_61 (.iv 14) (.ite x11_181 (.ite x11_174 (.iv 14) (.iv 28)) (.iv 14))) (.iv 14)))), .ci .u8 (.ite x11_42 (.iv 15) (.ite x11_45 (.iv 15) (.ite x11_63 (.ite x11_61 (.iv 15) (.ite x11_181 (.iv 15) (.ite x11_222 (.iv 28) (.iv 15)))) (.iv 15)))), .ci .u8 (.ite x11_42 (.iv 16) (.ite x11_45 (.iv 16) (.ite x11_63 (.ite x11_61 (.iv 16) (.ite x11_181 (.iv 16) (.ite x11_222 (.iv 16) (.ite x11_236 (.iv 28) (.iv 16))))) (.iv 16)))), .ci .u8 (.ite x11_42 (.iv 17) (.ite x11_45 (.iv 17) (.ite x11_63 (.ite x11_61 (.iv 17) (.ite x11_181 (.iv 17) (.ite x11_222 (.iv 17) (.ite x11_236 (.iv 17) (.ite x11_252 (.iv 28) (.iv 17)))))) (.iv 17)))), .ci .u8 (.ite x11_42 (.iv 18) (.ite x11_45 (.iv 18) (.ite x11_63 (.ite x11_61 (.iv 18) (.ite x11_181 (.iv 18) (.ite x11_222 (.iv 18) (.ite x11_236 (.iv 18) (.ite x11_252 (.iv 18) (.ite x11_270 (.iv 28) (.iv 18))))))) (.iv 18)))), .ci .u8 (.ite x11_42 (.iv 19) (.ite x11_45 (.iv 19) (.ite x11_63 (.ite x11_61 (.iv 19) (.ite x11_181 (.iv 19) (.ite x11_222 (.iv 19) (.ite x11_236 (.iv 19) (.ite x11_252 (.iv 19) (.ite x11_270 (.iv 19) (.ite x11_290 (.iv 28) (.iv 19)))))))) (.iv 19)))), .ci .u8 (.ite x11_42 (.iv 20) (.ite x11_45 (.iv 20) (.ite x11_63 (.ite x11_61 (.iv 20) (.ite x11_181 (.iv 20) (.ite x11_222 (.iv 20) (.ite x11_236 (.iv 20) (.ite x11_252 (.iv 20) (.ite x11_270 (.iv 20) (.ite x11_290 (.iv 20) (.iv 28)))))))) (.iv 20)))), .ci .u8 (.ite x11_42 (.iv 21) (.ite x11_45 (.iv 21) (.ite x11_63 (.ite x11_61 (.iv 21) (.ite x11_181 (.ite x11_174 (.ite x11_170 (.iv 21) (.ite x11_78 (.iv 21) (.ite x11_190 (.iv 21) (.ite x11_313 (.iv 28) (.iv 21))))) (.iv 21)) (.iv 21))) (.iv 21)))), .ci .u8 (.ite x11_42 (.iv 22) (.ite x11_45 (.iv 22) (.ite x11_63 (.ite x11_61 (.iv 22) (.ite x11_181 (.ite x11_174 (.ite x11_170 (.iv 22) (.ite x11_78 (.iv 22) (.ite x11_190 (.iv 22) (.ite x11_313 (.iv 22) (.ite x11_135 (.lit (.ofNat 0)) (.iv 22)))))) (.iv 22)) (.iv 22))) (.iv 22)))), .cb (.ite x11_42 (.bv 23) (.ite x11_45 (.bv 23) (.ite x11_63 (.ite x11_61 (.bv 23) (.ite x11_181 (.ite x11_174 (.ite x11_170 (.bv 23) (.ite x11_78 (.bv 23) (.ite x11_190 (.bv 23) (.ite x11_313 (.bv 23) (.or x11_135 (.bv 23)))))) (.bv 23)) (.bv 23))) (.bv 23)))), .cb (.ite x11_42 (.bv 24) (.ite x11_45 (.bv 24) (.ite x11_63 (.ite x11_61 (.bv 24) (.ite x11_181 (.ite x11_174 (.ite x11_170 (.bv 24) (.ite x11_78 (.bv 24) (.ite x11_190 (.bv 24) (.ite x11_313 (.bv 24) (.ite x11_135 (.bv 24) (.ite x11_349 x11_168 (.bv 24))))))) (.bv 24)) (.bv 24))) (.bv 24)))), .cb x11_375, .ci .i64 (.iv 26)], .c (.ci .i64 (.ite x11_42 (.ite x11_42 (.lit (.ofNat 1)) (.lit (.ofNat 0))) (.lit (.ofNat 0))))]
def ss11 : List SV := [.agg [.ci .i64 (.iv 0), .cb (.bv 1), .cb (.bv 2), .ci .u8 (.iv 3), .ci .u8 (.iv 4), .ci .u8 (.iv 5), .ci .u8 (.iv 6), .ci .u8 (.iv 7), .ci .u8 (.iv 8), .ci .i64 (.iv 9), .ci .u8 (.iv 10), .ci .u8 (.iv 11), .ci .u8 (.iv 12), .ci .u8 (.iv 13), .ci .u8 (.iv 14), .ci .u8 (.iv 15), .ci .u8 (.iv 16), .ci .u8 (.iv 17), .ci .u8 (.iv 18), .ci .u8 (.iv 19), .ci .u8 (.iv 20), .ci .u8 (.iv 21), .ci .u8 (.iv 22), .cb (.bv 23), .cb (.bv 24), .cb (.bv 25), .ci .i64 (.iv 26)], .c (.ci .u16 (.iv 27)), .c (.ci .u8 (.iv 28)), .c (.ci .i64 (.iv 29))]
def ks11 : List LK := [.i .i64, .b, .b, .i .u8, .i .u8, .i .u8, .i .u8, .i .u8, .i .u8, .i .i64, .i .u8, .i .u8, .i .u8, .i .u8, .i .u8, .i .u8, .i .u8, .i .u8, .i .u8, .i .u8, .i .u8, .i .u8, .i .u8, .b, .b, .b, .i .i64, .i .u16, .i .u8, .i .i64]
theorem args11 : argTs Try.prog Try.f11.params.toList 0 = some (ss11, ks11) := by kernel_rfl
theorem tree11 : tree Try.prog 12 (sumsIn sums13) 300 11 ss11 bare 0 ⟨ks11.map LK.rg, []⟩ = .leaf v11 := by kernel_rfl
def sums11 : List Sm := ⟨11, ss11, ks11, v11⟩ :: sums13
theorem sok11 : SumsOk Try.prog sums11 := sums_cons mixed sok13 args11 tree11 (by kernel_rfl)
def v10 : ST := .v (.c (.cb (.bl true)))
def ss10 : List SV := []
def ks10 : List LK := []
theorem args10 : argTs Try.prog Try.f10.params.toList 0 = some (ss10, ks10) := by kernel_rfl
theorem tree10 : tree Try.prog 12 (sumsIn sums11) 300 10 ss10 bare 0 ⟨ks10.map LK.rg, []⟩ = .leaf v10 := by kernel_rfl
def sums10 : List Sm := ⟨10, ss10, ks10, v10⟩ :: sums11
theorem sok10 : SumsOk Try.prog sums10 := sums_cons mixed sok11 args10 tree10 (by kernel_rfl)
def x12_2 : X := .cmp .eql (.iv 0) (.lit (.ofNat 1))
def x12_4 : X := .cmp .eql (.iv 0) (.lit (.ofNat 7))
def x12_13 : X := .bin .and .u8 (.iv 5) (.lit (.ofNat 3))
def v12 : ST := .v (.c (.ci .i64 (.ite (.or x12_2 (.or x12_4 (.or (.bv 2) (.cmp .eql (.iv 0) (.lit (.ofNat 4)))))) (.ite x12_2 (.ite (.cmp .eql x12_13 (.lit (.ofNat 0))) (.lit (.ofNat 2)) (.ite (.cmp .eql x12_13 (.lit (.ofNat 1))) (.lit (.ofNat 3)) (.ite (.cmp .eql x12_13 (.lit (.ofNat 2))) (.lit (.ofNat 1)) (.lit (.ofNat 0))))) (.ite x12_4 (.bin .add .i64 (.lit (.ofNat 2)) (.bin .and .u8 (.bin .shr .u8 (.iv 10) (.lit (.ofNat 4))) (.lit (.ofNat 1)))) (.ite (.bv 2) (.lit (.ofNat 4)) (.bin .sub .i64 (.lit (.ofNat 1)) (.bin .and .u8 (.iv 12) (.lit (.ofNat 1))))))) (.ite (.bv 1) (.lit (.ofNat 1)) (.lit (.ofNat 0))))))
def ss12 : List SV := [.agg [.ci .i64 (.iv 0), .cb (.bv 1), .cb (.bv 2), .ci .u8 (.iv 3), .ci .u8 (.iv 4), .ci .u8 (.iv 5), .ci .u8 (.iv 6), .ci .u8 (.iv 7), .ci .u8 (.iv 8), .ci .i64 (.iv 9), .ci .u8 (.iv 10), .ci .u8 (.iv 11), .ci .u8 (.iv 12), .ci .u8 (.iv 13), .ci .u8 (.iv 14), .ci .u8 (.iv 15), .ci .u8 (.iv 16), .ci .u8 (.iv 17), .ci .u8 (.iv 18), .ci .u8 (.iv 19), .ci .u8 (.iv 20), .ci .u8 (.iv 21), .ci .u8 (.iv 22), .cb (.bv 23), .cb (.bv 24), .cb (.bv 25), .ci .i64 (.iv 26)]]
def ks12 : List LK := [.i .i64, .b, .b, .i .u8, .i .u8, .i .u8, .i .u8, .i .u8, .i .u8, .i .i64, .i .u8, .i .u8, .i .u8, .i .u8, .i .u8, .i .u8, .i .u8, .i .u8, .i .u8, .i .u8, .i .u8, .i .u8, .i .u8, .b, .b, .b, .i .i64]
theorem args12 : argTs Try.prog Try.f12.params.toList 0 = some (ss12, ks12) := by kernel_rfl
theorem tree12 : tree Try.prog 12 (sumsIn sums10) 300 12 ss12 bare 0 ⟨ks12.map LK.rg, []⟩ = .leaf v12 := by kernel_rfl
def sums12 : List Sm := ⟨12, ss12, ks12, v12⟩ :: sums10
theorem sok12 : SumsOk Try.prog sums12 := sums_cons mixed sok10 args12 tree12 (by kernel_rfl)
def ss4 : List SV := [.agg [.ci .i64 (.iv 0), .ci .i64 (.iv 1), .ci .i64 (.iv 2), .ci .i64 (.iv 3), .cb (.bv 4), .cb (.bv 5), .cb (.bv 6), .cb (.bv 7), .cb (.bv 8), .ci .i64 (.iv 9), .cb (.bv 10), .cb (.bv 11), .ci .u8 (.iv 12), .ci .u8 (.iv 13), .ci .u8 (.iv 14), .ci .u8 (.iv 15), .ci .u8 (.iv 16), .ci .u8 (.iv 17), .ci .i64 (.iv 18), .ci .u8 (.iv 19), .ci .u8 (.iv 20), .ci .u8 (.iv 21), .ci .u8 (.iv 22), .ci .u8 (.iv 23), .ci .u8 (.iv 24), .ci .u8 (.iv 25), .ci .u8 (.iv 26), .ci .u8 (.iv 27), .ci .u8 (.iv 28), .ci .u8 (.iv 29), .ci .u8 (.iv 30), .ci .u8 (.iv 31), .cb (.bv 32), .cb (.bv 33), .cb (.bv 34), .ci .i64 (.iv 35), .ci .u16 (.iv 36), .ci .u8 (.iv 37), .ci .i64 (.iv 38), .cb (.bv 39)]]
def ks4 : List LK := [.i .i64, .i .i64, .i .i64, .i .i64, .b, .b, .b, .b, .b, .i .i64, .b, .b, .i .u8, .i .u8, .i .u8, .i .u8, .i .u8, .i .u8, .i .i64, .i .u8, .i .u8, .i .u8, .i .u8, .i .u8, .i .u8, .i .u8, .i .u8, .i .u8, .i .u8, .i .u8, .i .u8, .i .u8, .b, .b, .b, .i .i64, .i .u16, .i .u8, .i .i64, .b]
theorem args4 : argTs Try.prog Try.f4.params.toList 0 = some (ss4, ks4) := by kernel_rfl
def c_ : X := .cmp .eql (.iv 9) (.lit (.ofNat 0))
def K_1 : Known := ((⟨ks4.map LK.rg, []⟩ : Known).assume c_ true)
theorem leaf_1 : (tree Try.prog 0 (sumsIn sums12) 300 4 ss4 bare 6 K_1).prove 300 100 K_1 = true := by kernel_rfl
def c_0 : X := .cmp .eql (.iv 9) (.lit (.ofNat 1))
def K_01 : Known := (((⟨ks4.map LK.rg, []⟩ : Known).assume c_ false).assume c_0 true)
theorem leaf_01 : (tree Try.prog 0 (sumsIn sums12) 300 4 ss4 bare 6 K_01).prove 300 100 K_01 = true := by kernel_rfl
def c_00 : X := .cmp .eql (.iv 9) (.lit (.ofNat 2))
def K_001 : Known := ((((⟨ks4.map LK.rg, []⟩ : Known).assume c_ false).assume c_0 false).assume c_00 true)
theorem leaf_001 : (tree Try.prog 0 (sumsIn sums12) 300 4 ss4 bare 6 K_001).prove 300 100 K_001 = true := by kernel_rfl
def c_000 : X := .cmp .eql (.iv 9) (.lit (.ofNat 3))
def K_0001 : Known := (((((⟨ks4.map LK.rg, []⟩ : Known).assume c_ false).assume c_0 false).assume c_00 false).assume c_000 true)
theorem leaf_0001 : (tree Try.prog 0 (sumsIn sums12) 300 4 ss4 bare 6 K_0001).prove 300 100 K_0001 = true := by kernel_rfl
def c_0000 : X := .cmp .eql (.iv 9) (.lit (.ofNat 4))
def K_00001 : Known := ((((((⟨ks4.map LK.rg, []⟩ : Known).assume c_ false).assume c_0 false).assume c_00 false).assume c_000 false).assume c_0000 true)
theorem leaf_00001 : (tree Try.prog 0 (sumsIn sums12) 300 4 ss4 bare 6 K_00001).prove 300 100 K_00001 = true := by kernel_rfl
def c_00000 : X := .cmp .eql (.iv 9) (.lit (.ofNat 7))
def K_000001 : Known := (((((((⟨ks4.map LK.rg, []⟩ : Known).assume c_ false).assume c_0 false).assume c_00 false).assume c_000 false).assume c_0000 false).assume c_00000 true)
theorem leaf_000001 : (tree Try.prog 0 (sumsIn sums12) 300 4 ss4 bare 6 K_000001).prove 300 100 K_000001 = true := by kernel_rfl
def K_000000 : Known := (((((((⟨ks4.map LK.rg, []⟩ : Known).assume c_ false).assume c_0 false).assume c_00 false).assume c_000 false).assume c_0000 false).assume c_00000 false)
theorem leaf_000000 : (tree Try.prog 0 (sumsIn sums12) 300 4 ss4 bare 6 K_000000).prove 300 100 K_000000 = true := by kernel_rfl
theorem plan4 : ∀ ρ, (⟨ks4.map LK.rg, []⟩ : Known).ok ρ → ∃ K d, K.ok ρ ∧ (tree Try.prog 0 (sumsIn sums12) 300 4 ss4 bare d K).prove 300 100 K = true := fun ρ h => split_on c_ h (fun h => ⟨K_1, 6, h, leaf_1⟩) (fun h => split_on c_0 h (fun h => ⟨K_01, 6, h, leaf_01⟩) (fun h => split_on c_00 h (fun h => ⟨K_001, 6, h, leaf_001⟩) (fun h => split_on c_000 h (fun h => ⟨K_0001, 6, h, leaf_0001⟩) (fun h => split_on c_0000 h (fun h => ⟨K_00001, 6, h, leaf_00001⟩) (fun h => split_on c_00000 h (fun h => ⟨K_000001, 6, h, leaf_000001⟩) (fun h => ⟨K_000000, 6, h, leaf_000000⟩))))))

def zeros : Env := ⟨fun _ => 0, fun _ => false, fun _ _ => 0, fun _ _ => false, fun _ => .bool false⟩
set_option maxRecDepth 100000 in
theorem lifted4 (os : Os) (started : os.Started) (H : Type) (enc : TypeId × Value → H) :
    ReturnsInHanded {} Try.checked os 4 .any (Rows.mapperScreensSpec.pre6 enc Try.prog Try.f4 Rows.mapperScreensRow.domain false) (Rows.mapperScreensSpec.post enc Try.prog Try.f4 false true false false) := by
  refine returnsInHanded_of_change (C := Try.checked) own started (by kernel_rfl) Try.func4
    (ChangeSpec.witness6 (enc := enc) (C := Try.checked) false ⟨#[], (ss4.map (SV.den zeros fun _ => 0)).toArray, []⟩ 8 (by kernel_rfl) (by kernel_rfl) (by kernel_rfl) (by kernel_rfl)) ?_
  intro W base args ds gs before hval0 hW _ _
  have hval : ∀ (j : Nat) t v, Try.f4.params[j]? = some t → args[j]? = some v → Value.okWide Try.prog W .any base t v := hval0
  have hW' := hW
  obtain ⟨p, q, hA0, hV, rfl, _, _⟩ := hW
  have hA : DataW.TrodAll enc Try.prog W 0 (fun _ => true) true Try.f4.params.toList args.toList ds p := hA0
  obtain ⟨rfl, rfl⟩ := trodVars_none hV
  have hA1 := hA
  rw [Try.params4] at hA1
  obtain ⟨v0, d0, e1, rfl, _⟩ := trodAll_one hA1
  refine (flat_plan (r := .any) (base := base) mixed sok12 args4 plan4 (w := W) (by rw [e1]; rfl) (fun j t v ht hv => hval j t v (by simpa using ht) hv)).mono fun e W' ⟨⟨v, he, hv⟩, hb⟩ => ?_
  subst hv
  subst he
  exact ⟨_, rfl, law_post (tb := 4) laid rfl (by rw [Try.params4]; intro t ht; simp at ht; first | (subst ht; exact ⟨by kernel_rfl, of_decide_eq_true (by kernel_rfl)⟩) | (rcases ht with rfl | rfl <;> exact ⟨by kernel_rfl, of_decide_eq_true (by kernel_rfl)⟩) | (rcases ht with rfl | rfl | rfl <;> exact ⟨by kernel_rfl, of_decide_eq_true (by kernel_rfl)⟩)) rfl Try.underlying4 hW' hA hb ⟨rfl, rfl, rfl⟩⟩

theorem mapperScreens_holds : Rows.MapperScreensSaid :=
  OpenClaim.holds_of_wide 4 Try.f4 rfl rfl rfl rfl rfl rfl rfl ⟨rfl, rfl, rfl, rfl, rfl⟩ rfl rfl rfl rfl rfl (by kernel_rfl) Try.func4 (by kernel_rfl)
    (of_decide_eq_true (by kernel_rfl)) (by unfold Func.isWrapper; first | (rw [if_pos (by decide +kernel)]; kernel_rfl) | (rw [if_neg (by decide +kernel)]; exact ⟨rfl, rfl⟩))
    (fun os started H enc _ => lifted4 os started H enc)
#print axioms mapperScreens_holds
end Go.Proofs.Ytnjjdakmpkddhaa
