/- For every input MapperCounts answers true. -/
import Derived.Test.YtnjjdakmpkddhaaRows
import Derived.Test.YtnjjdakmpkddhaaSx23
namespace Go.Proofs.Ytnjjdakmpkddhaa
open Go.ChangeShapes Go.WideShapes Go.ChangeAt Go.RowKit Go.Sx

theorem own : ownKnob Try.prog.godebug = none := by kernel_rfl
theorem laid : laidOutB Try.prog = true := by kernel_rfl
theorem mixed : Try.prog.follows .mixedOrders = true := by kernel_rfl

def v13 : ST := .v (.agg [.ci .i64 (.iv 0), .cb (.bl false), .cb (.bl false), .ci .u8 (.lit (.ofNat 0)), .ci .u8 (.lit (.ofNat 0)), .ci .u8 (.lit (.ofNat 12)), .ci .u8 (.lit (.ofNat 0)), .ci .u8 (.lit (.ofNat 0)), .ci .u8 (.lit (.ofNat 0)), .ci .i64 (.lit (.negSucc 1)), .ci .u8 (.lit (.ofNat 0)), .ci .u8 (.lit (.ofNat 0)), .ci .u8 (.lit (.ofNat 0)), .ci .u8 (.lit (.ofNat 0)), .ci .u8 (.lit (.ofNat 0)), .ci .u8 (.lit (.ofNat 0)), .ci .u8 (.lit (.ofNat 0)), .ci .u8 (.lit (.ofNat 0)), .ci .u8 (.lit (.ofNat 0)), .ci .u8 (.lit (.ofNat 0)), .ci .u8 (.lit (.ofNat 0)), .ci .u8 (.lit (.ofNat 0)), .ci .u8 (.lit (.ofNat 0)), .cb (.bl false), .cb (.bl false), .cb (.bl false), .ci .i64 (.lit (.ofNat 0))])
def ss13 : List SV := [.c (.ci .i64 (.iv 0))]
def ks13 : List LK := [.i .i64]
theorem args13 : argTs Try.prog Try.f13.params.toList 0 = some (ss13, ks13) := by kernel_rfl
theorem tree13 : tree Try.prog 12 (sumsIn []) 300 13 ss13 bare 0 ⟨ks13.map LK.rg, []⟩ = .leaf v13 := by kernel_rfl
def sums13 : List Sm := ⟨13, ss13, ks13, v13⟩ :: []
theorem sok13 : SumsOk Try.prog sums13 := sums_cons mixed sums_nil args13 tree13 (by kernel_rfl)
def v26 : ST := .v (.c (.cb (.or (.and (.cmp .geq (.iv 0) (.lit (.ofNat 0))) (.cmp .leq (.iv 0) (.lit (.ofNat 4)))) (.cmp .eql (.iv 0) (.lit (.ofNat 7))))))
def ss26 : List SV := [.c (.ci .i64 (.iv 0))]
def ks26 : List LK := [.i .i64]
theorem args26 : argTs Try.prog Try.f26.params.toList 0 = some (ss26, ks26) := by kernel_rfl
theorem tree26 : tree Try.prog 12 (sumsIn sums13) 300 26 ss26 bare 0 ⟨ks26.map LK.rg, []⟩ = .leaf v26 := by kernel_rfl
def sums26 : List Sm := ⟨26, ss26, ks26, v26⟩ :: sums13
theorem sok26 : SumsOk Try.prog sums26 := sums_cons mixed sok13 args26 tree26 (by kernel_rfl)
def x21_9 : X := .not (.or (.and (.cmp .geq (.iv 0) (.lit (.ofNat 0))) (.cmp .leq (.iv 0) (.lit (.ofNat 4)))) (.cmp .eql (.iv 0) (.lit (.ofNat 7))))
def x21_12 : X := .bin .quo .i64 (.iv 2) (.lit (.ofNat 16384))
def x21_14 : X := .cmp .eql x21_12 (.lit (.ofNat 1))
def x21_15 : X := .not x21_14
def x21_17 : X := .cmp .eql x21_12 (.lit (.ofNat 2))
def x21_19 : X := .not x21_17
def x21_20 : X := .cmp .eql x21_12 (.lit (.ofNat 4))
def x21_23 : X := .not x21_20
def x21_25 : X := .cmp .eql x21_12 (.lit (.ofNat 8))
def x21_30 : X := .not x21_25
def x21_32 : X := .cmp .eql x21_12 (.lit (.ofNat 16))
def x21_53 : X := .cmp .geq (.ite x21_14 (.lit (.ofNat 0)) (.ite (.and x21_15 x21_17) (.lit (.ofNat 1)) (.ite (.and x21_15 (.and x21_19 x21_20)) (.lit (.ofNat 2)) (.ite (.and x21_15 (.and x21_19 (.and x21_23 x21_25))) (.lit (.ofNat 3)) (.ite (.and x21_15 (.and x21_19 (.and x21_23 (.and x21_30 x21_32)))) (.lit (.ofNat 4)) (.ite (.and x21_15 (.and x21_19 (.and x21_23 (.and x21_30 (.and (.not x21_32) (.cmp .eql x21_12 (.lit (.ofNat 32)))))))) (.lit (.ofNat 5)) (.lit (.negSucc 0)))))))) (.lit (.ofNat 0))
def x21_60 : X := .bin .quo .i64 (.iv 3) (.lit (.ofNat 8192))
def x21_61 : X := .cmp .eql x21_60 (.lit (.ofNat 1))
def x21_62 : X := .not x21_61
def x21_63 : X := .cmp .eql x21_60 (.lit (.ofNat 2))
def x21_65 : X := .not x21_63
def x21_66 : X := .cmp .eql x21_60 (.lit (.ofNat 4))
def x21_69 : X := .not x21_66
def x21_70 : X := .cmp .eql x21_60 (.lit (.ofNat 8))
def x21_74 : X := .not x21_70
def x21_75 : X := .cmp .eql x21_60 (.lit (.ofNat 16))
def x21_93 : X := .cmp .geq (.ite x21_61 (.lit (.ofNat 0)) (.ite (.and x21_62 x21_63) (.lit (.ofNat 1)) (.ite (.and x21_62 (.and x21_65 x21_66)) (.lit (.ofNat 2)) (.ite (.and x21_62 (.and x21_65 (.and x21_69 x21_70))) (.lit (.ofNat 3)) (.ite (.and x21_62 (.and x21_65 (.and x21_69 (.and x21_74 x21_75)))) (.lit (.ofNat 4)) (.ite (.and x21_62 (.and x21_65 (.and x21_69 (.and x21_74 (.and (.not x21_75) (.cmp .eql x21_60 (.lit (.ofNat 32)))))))) (.lit (.ofNat 5)) (.lit (.negSucc 0)))))))) (.lit (.ofNat 0))
def x21_102 : X := .or (.or (.not (.and x21_53 (.cmp .eql (.bin .rem .i64 (.iv 2) (.lit (.ofNat 16384))) (.lit (.ofNat 0))))) (.not (.and x21_93 (.cmp .eql (.bin .rem .i64 (.iv 3) (.lit (.ofNat 8192))) (.lit (.ofNat 0)))))) (.and (.bv 8) (.cmp .neq (.iv 3) (.lit (.ofNat 8192))))
def v21 : ST := .v (.c (.ci .i64 (.ite (.or x21_9 (.or x21_102 (.or (.or (.cmp .lss (.iv 1) (.lit (.ofNat 0))) (.cmp .gtr (.iv 1) (.lit (.ofNat 15)))) (.and (.not (.bv 7)) (.cmp .neq (.iv 1) (.lit (.ofNat 0))))))) (.ite x21_9 (.lit (.ofNat 6)) (.ite x21_102 (.lit (.ofNat 5)) (.lit (.ofNat 1)))) (.lit (.ofNat 0)))))
def ss21 : List SV := [.agg [.ci .i64 (.iv 0), .ci .i64 (.iv 1), .ci .i64 (.iv 2), .ci .i64 (.iv 3), .cb (.bv 4), .cb (.bv 5), .cb (.bv 6), .cb (.bv 7), .cb (.bv 8)]]
def ks21 : List LK := [.i .i64, .i .i64, .i .i64, .i .i64, .b, .b, .b, .b, .b]
theorem args21 : argTs Try.prog Try.f21.params.toList 0 = some (ss21, ks21) := by kernel_rfl
theorem tree21 : tree Try.prog 12 (sumsIn sums26) 300 21 ss21 bare 0 ⟨ks21.map LK.rg, []⟩ = .leaf v21 := by kernel_rfl
def sums21 : List Sm := ⟨21, ss21, ks21, v21⟩ :: sums26
theorem sok21 : SumsOk Try.prog sums21 := sums_cons mixed sok26 args21 tree21 (by kernel_rfl)
def x9_9 : X := .not (.or (.and (.cmp .geq (.iv 0) (.lit (.ofNat 0))) (.cmp .leq (.iv 0) (.lit (.ofNat 4)))) (.cmp .eql (.iv 0) (.lit (.ofNat 7))))
def x9_21 : X := .ite (.cmp .gtr (.iv 5) (.iv 3)) (.iv 5) (.iv 3)
def x9_23 : X := .ite (.cmp .gtr (.iv 6) x9_21) (.iv 6) x9_21
def x9_25 : X := .ite (.cmp .gtr (.iv 7) x9_23) (.iv 7) x9_23
def v9 : ST := .v (.c (.ci .i64 (.ite (.or (.or (.or (.or (.cmp .neq (.ite x9_9 (.ite x9_9 (.lit (.ofNat 6)) (.lit (.ofNat 1))) (.lit (.ofNat 0))) (.lit (.ofNat 0))) (.cmp .geq (.ite (.cmp .gtr (.iv 8) x9_25) (.iv 8) x9_25) (.lit (.ofNat 32)))) (.cmp .geq (.iv 4) (.lit (.ofNat 5)))) (.cmp .lss (.iv 26) (.lit (.ofNat 0)))) (.cmp .gtr (.iv 26) (.lit (.ofNat 100)))) (.lit (.ofNat 1)) (.lit (.ofNat 0)))))
def ss9 : List SV := [.agg [.ci .i64 (.iv 0), .cb (.bv 1), .cb (.bv 2), .ci .u8 (.iv 3), .ci .u8 (.iv 4), .ci .u8 (.iv 5), .ci .u8 (.iv 6), .ci .u8 (.iv 7), .ci .u8 (.iv 8), .ci .i64 (.iv 9), .ci .u8 (.iv 10), .ci .u8 (.iv 11), .ci .u8 (.iv 12), .ci .u8 (.iv 13), .ci .u8 (.iv 14), .ci .u8 (.iv 15), .ci .u8 (.iv 16), .ci .u8 (.iv 17), .ci .u8 (.iv 18), .ci .u8 (.iv 19), .ci .u8 (.iv 20), .ci .u8 (.iv 21), .ci .u8 (.iv 22), .cb (.bv 23), .cb (.bv 24), .cb (.bv 25), .ci .i64 (.iv 26)]]
def ks9 : List LK := [.i .i64, .b, .b, .i .u8, .i .u8, .i .u8, .i .u8, .i .u8, .i .u8, .i .i64, .i .u8, .i .u8, .i .u8, .i .u8, .i .u8, .i .u8, .i .u8, .i .u8, .i .u8, .i .u8, .i .u8, .i .u8, .i .u8, .b, .b, .b, .i .i64]
theorem args9 : argTs Try.prog Try.f9.params.toList 0 = some (ss9, ks9) := by kernel_rfl
theorem tree9 : tree Try.prog 12 (sumsIn sums21) 300 9 ss9 bare 0 ⟨ks9.map LK.rg, []⟩ = .leaf v9 := by kernel_rfl
def sums9 : List Sm := ⟨9, ss9, ks9, v9⟩ :: sums21
theorem sok9 : SumsOk Try.prog sums9 := sums_cons mixed sok21 args9 tree9 (by kernel_rfl)
def x11_9 : X := .cmp .eql (.iv 0) (.lit (.ofNat 7))
def x11_11 : X := .not (.or (.and (.cmp .geq (.iv 0) (.lit (.ofNat 0))) (.cmp .leq (.iv 0) (.lit (.ofNat 4)))) x11_9)
def x11_23 : X := .ite (.cmp .gtr (.iv 5) (.iv 3)) (.iv 5) (.iv 3)
def x11_25 : X := .ite (.cmp .gtr (.iv 6) x11_23) (.iv 6) x11_23
def x11_27 : X := .ite (.cmp .gtr (.iv 7) x11_25) (.iv 7) x11_25
def x11_42 : X := .or (.or (.or (.or (.cmp .neq (.ite x11_11 (.ite x11_11 (.lit (.ofNat 6)) (.lit (.ofNat 1))) (.lit (.ofNat 0))) (.lit (.ofNat 0))) (.cmp .geq (.ite (.cmp .gtr (.iv 8) x11_27) (.iv 8) x11_27) (.lit (.ofNat 32)))) (.cmp .geq (.iv 4) (.lit (.ofNat 5)))) (.cmp .lss (.iv 26) (.lit (.ofNat 0)))) (.cmp .gtr (.iv 26) (.lit (.ofNat 100)))
def x11_45 : X := .cmp .lss (.iv 27) (.lit (.ofNat 32768))
def x11_46 : X := .cmp .eql (.iv 0) (.lit (.ofNat 1))
def x11_47 : X := .not x11_46
def x11_48 : X := .cmp .eql (.iv 0) (.lit (.ofNat 4))
def x11_61 : X := .or x11_46 (.and x11_47 (.and (.not x11_48) (.and (.not (.cmp .eql (.iv 0) (.lit (.ofNat 2)))) (.and (.not (.cmp .eql (.iv 0) (.lit (.ofNat 3)))) (.not x11_9)))))
def x11_63 : X := .or x11_61 (.and x11_47 x11_48)
def x11_67 : X := .cmp .eql (.iv 29) (.bin .add .i64 (.iv 9) (.lit (.ofNat 1)))
def x11_71 : X := .cmp .gtr (.bin .and .u8 (.iv 28) (.lit (.ofNat 128))) (.lit (.ofNat 0))
def x11_72 : X := .bin .add .u8 (.iv 4) (.lit (.ofNat 1))
def x11_73 : X := .cmp .lss x11_72 (.lit (.ofNat 5))
def x11_74 : X := .not x11_73
def x11_77 : X := .bin .and .u16 (.bin .shr .u16 (.iv 27) (.lit (.ofNat 13))) (.lit (.ofNat 3))
def x11_78 : X := .cmp .eql x11_77 (.lit (.ofNat 0))
def x11_81 : X := .or x11_67 (.or x11_71 (.and x11_74 x11_78))
def x11_82 : X := .not x11_67
def x11_83 : X := .not x11_71
def x11_84 : X := .not x11_78
def x11_85 : X := .cmp .eql x11_77 (.lit (.ofNat 1))
def x11_90 : X := .or x11_81 (.and x11_82 (.and x11_83 (.and x11_74 (.and x11_84 x11_85))))
def x11_94 : X := .and x11_82 (.and x11_83 x11_73)
def x11_99 : X := .bin .or .u8 (.bin .andNot .u8 (.iv 3) (.bin .shl .u8 (.lit (.ofNat 1)) (.iv 4))) (.bin .shl .u8 (.bin .and .u8 (.iv 28) (.lit (.ofNat 1))) (.iv 4))
def x11_135 : X := .cmp .eql x11_77 (.lit (.ofNat 2))
def x11_140 : X := .and x11_82 (.and x11_83 (.and x11_74 (.and x11_84 (.and (.not x11_85) x11_135))))
def x11_168 : X := .cmp .gtr (.bin .and .u16 (.iv 27) (.lit (.ofNat 1))) (.lit (.ofNat 0))
def x11_169 : X := .not x11_168
def x11_170 : X := .and x11_78 x11_169
def x11_171 : X := .bin .and .u8 (.iv 11) (.lit (.ofNat 7))
def x11_172 : X := .cmp .eql x11_171 (.lit (.ofNat 0))
def x11_174 : X := .or x11_170 (.or x11_84 x11_172)
def x11_175 : X := .not x11_170
def x11_176 : X := .not x11_172
def x11_177 : X := .cmp .eql x11_171 (.lit (.ofNat 1))
def x11_181 : X := .or x11_174 (.and x11_175 (.and x11_78 (.and x11_176 x11_177)))
def x11_190 : X := .and x11_85 x11_169
def x11_217 : X := .not x11_177
def x11_218 : X := .cmp .eql x11_171 (.lit (.ofNat 2))
def x11_222 : X := .and x11_175 (.and x11_78 (.and x11_176 (.and x11_217 x11_218)))
def x11_230 : X := .not x11_218
def x11_231 : X := .cmp .eql x11_171 (.lit (.ofNat 3))
def x11_236 : X := .and x11_175 (.and x11_78 (.and x11_176 (.and x11_217 (.and x11_230 x11_231))))
def x11_245 : X := .not x11_231
def x11_246 : X := .cmp .eql x11_171 (.lit (.ofNat 4))
def x11_252 : X := .and x11_175 (.and x11_78 (.and x11_176 (.and x11_217 (.and x11_230 (.and x11_245 x11_246)))))
def x11_262 : X := .not x11_246
def x11_263 : X := .cmp .eql x11_171 (.lit (.ofNat 5))
def x11_270 : X := .and x11_175 (.and x11_78 (.and x11_176 (.and x11_217 (.and x11_230 (.and x11_245 (.and x11_262 x11_263))))))
def x11_290 : X := .and x11_175 (.and x11_78 (.and x11_176 (.and x11_217 (.and x11_230 (.and x11_245 (.and x11_262 (.and (.not x11_263) (.cmp .eql x11_171 (.lit (.ofNat 6))))))))))
def x11_313 : X := .and x11_135 x11_169
def x11_349 : X := .cmp .eql x11_77 (.lit (.ofNat 3))
def x11_375 : X := .ite x11_42 (.bv 25) (.ite x11_45 (.bv 25) (.ite x11_63 (.ite x11_61 (.bv 25) (.ite x11_181 (.ite x11_174 (.ite x11_170 (.bv 25) (.ite x11_78 (.bv 25) (.ite x11_190 (.bv 25) (.ite x11_313 (.bv 25) (.ite x11_135 (.bv 25) (.ite x11_349 (.and (.bv 25) x11_168) (.bv 25))))))) (.bv 25)) (.bv 25))) (.bv 25)))
def v11 : ST := .tup [.agg [.ci .i64 (.iv 0), .cb (.bv 1), .cb (.bv 2), .ci .u8 (.ite x11_42 (.iv 3) (.ite x11_45 (.iv 3) (.ite x11_63 (.ite x11_61 (.ite x11_46 (.ite x11_90 (.ite x11_81 (.ite x11_67 (.iv 3) (.lit (.ofNat 0))) (.lit (.ofNat 0))) (.ite x11_94 x11_99 (.lit (.ofNat 0)))) (.iv 3)) (.iv 3)) (.iv 3)))), .ci .u8 (.ite x11_42 (.iv 4) (.ite x11_45 (.iv 4) (.ite x11_63 (.ite x11_61 (.ite x11_46 (.ite x11_90 (.ite x11_81 (.ite x11_67 (.iv 4) (.lit (.ofNat 0))) (.lit (.ofNat 0))) (.ite x11_94 x11_72 (.lit (.ofNat 0)))) (.iv 4)) (.iv 4)) (.iv 4)))), .ci .u8 (.ite x11_42 (.iv 5) (.ite x11_45 (.iv 5) (.ite x11_63 (.ite x11_61 (.ite x11_46 (.ite x11_90 (.ite x11_81 (.ite x11_67 (.iv 5) (.ite x11_71 (.bin .or .u8 (.iv 5) (.lit (.ofNat 12))) x11_99)) (.iv 5)) (.iv 5)) (.iv 5)) (.iv 5)) (.iv 5)))), .ci .u8 (.ite x11_42 (.iv 6) (.ite x11_45 (.iv 6) (.ite x11_63 (.ite x11_61 (.ite x11_46 (.ite x11_90 (.ite x11_81 (.iv 6) x11_99) (.iv 6)) (.iv 6)) (.iv 6)) (.iv 6)))), .ci .u8 (.ite x11_42 (.iv 7) (.ite x11_45 (.iv 7) (.ite x11_63 (.ite x11_61 (.ite x11_46 (.ite x11_90 (.iv 7) (.ite x11_94 (.iv 7) (.ite x11_140 x11_99 (.iv 7)))) (.iv 7)) (.iv 7)) (.iv 7)))), .ci .u8 (.ite x11_42 (.iv 8) (.ite x11_45 (.iv 8) (.ite x11_63 (.ite x11_61 (.ite x11_46 (.ite x11_90 (.iv 8) (.ite x11_94 (.iv 8) (.ite x11_140 (.iv 8) x11_99))) (.iv 8)) (.iv 8)) (.iv 8)))), .ci .i64 (.ite x11_42 (.iv 9) (.ite x11_45 (.iv 9) (.ite x11_63 (.ite x11_61 (.ite x11_46 (.iv 29) (.iv 9)) (.iv 9)) (.iv 9)))), .ci .u8 (.ite x11_42 (.iv 10) (.ite x11_45 (.iv 10) (.ite x11_63 (.iv 10) (.iv 28)))), .ci .u8 (.ite x11_42 (.iv 11) (.ite x11_45 (.iv 11) (.ite x11_63 (.ite x11_61 (.iv 11) (.ite x11_181 (.ite x11_174 (.ite x11_170 (.iv 28) (.iv 11)) (.iv 11)) (.iv 11))) (.iv 11)))), .ci .u8 (.ite x11_42 (.iv 12) (.ite x11_45 (.iv 12) (.ite x11_63 (.ite x11_61 (.iv 12) (.ite x11_181 (.ite x11_174 (.ite x11_170 (.iv 12) (.ite x11_78 (.iv 12) (.ite x11_190 (.iv 28) (.iv 12)))) (.iv 12)) (.iv 12))) (.iv 12)))), .ci .u8 (.ite x11_42 (.iv 13) (.ite x11_45 (.iv 13) (.ite x11_63 (.ite x11_61 (.iv 13) (.ite x11_181 (.ite x11_174 (.ite x11_170 (.iv 13) (.ite x11_78 (.iv 28) (.iv 13))) (.iv 13)) (.iv 13))) (.iv 13)))), .ci .u8 (.ite x11_42 (.iv 14) (.ite x11_45 (.iv 14) (.ite x11_63 (.ite x11_61 (.iv 14) (.ite x11_181 (.ite x11_174 (.iv 14) (.iv 28)) (.iv 14))) (.iv 14)))), .ci .u8 (.ite x11_42 (.iv 15) (.ite x11_45 (.iv 15) (.ite x11_63 (.ite x11_61 (.iv 15) (.ite x11_181 (.iv 15) (.ite x11_222 (.iv 28) (.iv 15)))) (.iv 15)))), .ci .u8 (.ite x11_42 (.iv 16) (.ite x11_45 (.iv 16) (.ite x11_63 (.ite x11_61 (.iv 16) (.ite x11_181 (.iv 16) (.ite x11_222 (.iv 16) (.ite x11_236 (.iv 28) (.iv 16))))) (.iv 16)))), .ci .u8 (.ite x11_42 (.iv 17) (.ite x11_45 (.iv 17) (.ite x11_63 (.ite x11_61 (.iv 17) (.ite x11_181 (.iv 17) (.ite x11_222 (.iv 17) (.ite x11_236 (.iv 17) (.ite x11_252 (.iv 28) (.iv 17)))))) (.iv 17)))), .ci .u8 (.ite x11_42 (.iv 18) (.ite x11_45 (.iv 18) (.ite x11_63 (.ite x11_61 (.iv 18) (.ite x11_181 (.iv 18) (.ite x11_222 (.iv 18) (.ite x11_236 (.iv 18) (.ite x11_252 (.iv 18) (.ite x11_270 (.iv 28) (.iv 18))))))) (.iv 18)))), .ci .u8 (.ite x11_42 (.iv 19) (.ite x11_45 (.iv 19) (.ite x11_63 (.ite x11_61 (.iv 19) (.ite x11_181 (.iv 19) (.ite x11_222 (.iv 19) (.ite x11_236 (.iv 19) (.ite x11_252 (.iv 19) (.ite x11_270 (.iv 19) (.ite x11_290 (.iv 28) (.iv 19)))))))) (.iv 19)))), .ci .u8 (.ite x11_42 (.iv 20) (.ite x11_45 (.iv 20) (.ite x11_63 (.ite x11_61 (.iv 20) (.ite x11_181 (.iv 20) (.ite x11_222 (.iv 20) (.ite x11_236 (.iv 20) (.ite x11_252 (.iv 20) (.ite x11_270 (.iv 20) (.ite x11_290 (.iv 20) (.iv 28)))))))) (.iv 20)))), .ci .u8 (.ite x11_42 (.iv 21) (.ite x11_45 (.iv 21) (.ite x11_63 (.ite x11_61 (.iv 21) (.ite x11_181 (.ite x11_174 (.ite x11_170 (.iv 21) (.ite x11_78 (.iv 21) (.ite x11_190 (.iv 21) (.ite x11_313 (.iv 28) (.iv 21))))) (.iv 21)) (.iv 21))) (.iv 21)))), .ci .u8 (.ite x11_42 (.iv 22) (.ite x11_45 (.iv 22) (.ite x11_63 (.ite x11_61 (.iv 22) (.ite x11_181 (.ite x11_174 (.ite x11_170 (.iv 22) (.ite x11_78 (.iv 22) (.ite x11_190 (.iv 22) (.ite x11_313 (.iv 22) (.ite x11_135 (.lit (.ofNat 0)) (.iv 22)))))) (.iv 22)) (.iv 22))) (.iv 22)))), .cb (.ite x11_42 (.bv 23) (.ite x11_45 (.bv 23) (.ite x11_63 (.ite x11_61 (.bv 23) (.ite x11_181 (.ite x11_174 (.ite x11_170 (.bv 23) (.ite x11_78 (.bv 23) (.ite x11_190 (.bv 23) (.ite x11_313 (.bv 23) (.or x11_135 (.bv 23)))))) (.bv 23)) (.bv 23))) (.bv 23)))), .cb (.ite x11_42 (.bv 24) (.ite x11_45 (.bv 24) (.ite x11_63 (.ite x11_61 (.bv 24) (.ite x11_181 (.ite x11_174 (.ite x11_170 (.bv 24) (.ite x11_78 (.bv 24) (.ite x11_190 (.bv 24) (.ite x11_313 (.bv 24) (.ite x11_135 (.bv 24) (.ite x11_349 x11_168 (.bv 24))))))) (.bv 24)) (.bv 24))) (.bv 24)))), .cb x11_375, .ci .i64 (.iv 26)], .c (.ci .i64 (.ite x11_42 (.ite x11_42 (.lit (.ofNat 1)) (.lit (.ofNat 0))) (.lit (.ofNat 0))))]
def ss11 : List SV := [.agg [.ci .i64 (.iv 0), .cb (.bv 1), .cb (.bv 2), .ci .u8 (.iv 3), .ci .u8 (.iv 4), .ci .u8 (.iv 5), .ci .u8 (.iv 6), .ci .u8 (.iv 7), .ci .u8 (.iv 8), .ci .i64 (.iv 9), .ci .u8 (.iv 10), .ci .u8 (.iv 11), .ci .u8 (.iv 12), .ci .u8 (.iv 13), .ci .u8 (.iv 14), .ci .u8 (.iv 15), .ci .u8 (.iv 16), .ci .u8 (.iv 17), .ci .u8 (.iv 18), .ci .u8 (.iv 19), .ci .u8 (.iv 20), .ci .u8 (.iv 21), .ci .u8 (.iv 22), .cb (.bv 23), .cb (.bv 24), .cb (.bv 25), .ci .i64 (.iv 26)], .c (.ci .u16 (.iv 27)), .c (.ci .u8 (.iv 28)), .c (.ci .i64 (.iv 29))]
def ks11 : List LK := [.i .i64, .b, .b, .i .u8, .i .u8, .i .u8, .i .u8, .i .u8, .i .u8, .i .i64, .i .u8, .i .u8, .i .u8, .i .u8, .i .u8, .i .u8, .i .u8, .i .u8, .i .u8, .i .u8, .i .u8, .i .u8, .i .u8, .b, .b, .b, .i .i64, .i .u16, .i .u8, .i .i64]
theorem args11 : argTs Try.prog Try.f11.params.toList 0 = some (ss11, ks11) := by kernel_rfl
theorem tree11 : tree Try.prog 12 (sumsIn sums9) 300 11 ss11 bare 0 ⟨ks11.map LK.rg, []⟩ = .leaf v11 := by kernel_rfl
def sums11 : List Sm := ⟨11, ss11, ks11, v11⟩ :: sums9
theorem sok11 : SumsOk Try.prog sums11 := sums_cons mixed sok9 args11 tree11 (by kernel_rfl)
def x14_30 : X := .not (.or (.and (.cmp .geq (.iv 0) (.lit (.ofNat 0))) (.cmp .leq (.iv 0) (.lit (.ofNat 4)))) (.cmp .eql (.iv 0) (.lit (.ofNat 7))))
def x14_37 : X := .ite (.cmp .gtr (.iv 5) (.iv 3)) (.iv 5) (.iv 3)
def x14_39 : X := .ite (.cmp .gtr (.iv 6) x14_37) (.iv 6) x14_37
def x14_41 : X := .ite (.cmp .gtr (.iv 7) x14_39) (.iv 7) x14_39
def x14_55 : X := .or (.or (.or (.or (.cmp .neq (.ite x14_30 (.ite x14_30 (.lit (.ofNat 6)) (.lit (.ofNat 1))) (.lit (.ofNat 0))) (.lit (.ofNat 0))) (.cmp .geq (.ite (.cmp .gtr (.iv 8) x14_41) (.iv 8) x14_41) (.lit (.ofNat 32)))) (.cmp .geq (.iv 4) (.lit (.ofNat 5)))) (.cmp .lss (.iv 26) (.lit (.ofNat 0)))) (.cmp .gtr (.iv 26) (.lit (.ofNat 100)))
def x14_56 : X := .cmp .neq (.iv 0) (.lit (.ofNat 4))
def x14_60 : X := .or x14_55 (.or x14_56 (.not (.bv 27)))
def x14_63 : X := .cmp .geq (.iv 26) (.lit (.ofNat 8))
def x14_68 : X := .ite (.or (.cmp .eql (.iv 22) (.lit (.ofNat 0))) (.bv 23)) (.iv 21) (.bin .sub .u8 (.iv 22) (.lit (.ofNat 1)))
def x14_81 : X := .bin .add .i64 (.iv 26) (.lit (.ofNat 1))
def v14 : ST := .tup [.agg [.ci .i64 (.iv 0), .cb (.bv 1), .cb (.bv 2), .ci .u8 (.iv 3), .ci .u8 (.iv 4), .ci .u8 (.iv 5), .ci .u8 (.iv 6), .ci .u8 (.iv 7), .ci .u8 (.iv 8), .ci .i64 (.iv 9), .ci .u8 (.iv 10), .ci .u8 (.iv 11), .ci .u8 (.iv 12), .ci .u8 (.iv 13), .ci .u8 (.iv 14), .ci .u8 (.iv 15), .ci .u8 (.iv 16), .ci .u8 (.iv 17), .ci .u8 (.iv 18), .ci .u8 (.iv 19), .ci .u8 (.iv 20), .ci .u8 (.iv 21), .ci .u8 (.ite x14_60 (.iv 22) (.ite x14_63 x14_68 (.iv 22))), .cb (.ite x14_60 (.bv 23) (.and (.not x14_63) (.bv 23))), .cb (.bv 24), .cb (.ite x14_60 (.bv 25) (.ite x14_63 (.or (.bv 25) (.and (.cmp .eql x14_68 (.lit (.ofNat 0))) (.bv 24))) (.bv 25))), .ci .i64 (.ite x14_60 (.ite x14_55 (.iv 26) (.ite x14_56 (.iv 26) (.ite (.cmp .lss (.lit (.ofNat 100)) x14_81) (.lit (.ofNat 100)) x14_81))) (.lit (.ofNat 0)))], .c (.ci .i64 (.ite x14_60 (.ite x14_55 (.lit (.ofNat 1)) (.lit (.ofNat 0))) (.lit (.ofNat 0))))]
def ss14 : List SV := [.agg [.ci .i64 (.iv 0), .cb (.bv 1), .cb (.bv 2), .ci .u8 (.iv 3), .ci .u8 (.iv 4), .ci .u8 (.iv 5), .ci .u8 (.iv 6), .ci .u8 (.iv 7), .ci .u8 (.iv 8), .ci .i64 (.iv 9), .ci .u8 (.iv 10), .ci .u8 (.iv 11), .ci .u8 (.iv 12), .ci .u8 (.iv 13), .ci .u8 (.iv 14), .ci .u8 (.iv 15), .ci .u8 (.iv 16), .ci .u8 (.iv 17), .ci .u8 (.iv 18), .ci .u8 (.iv 19), .ci .u8 (.iv 20), .ci .u8 (.iv 21), .ci .u8 (.iv 22), .cb (.bv 23), .cb (.bv 24), .cb (.bv 25), .ci .i64 (.iv 26)], .c (.cb (.bv 27))]
def ks14 : List LK := [.i .i64, .b, .b, .i .u8, .i .u8, .i .u8, .i .u8, .i .u8, .i .u8, .i .i64, .i .u8, .i .u8, .i .u8, .i .u8, .i .u8, .i .u8, .i .u8, .i .u8, .i .u8, .i .u8, .i .u8, .i .u8, .i .u8, .b, .b, .b, .i .i64, .b]
theorem args14 : argTs Try.prog Try.f14.params.toList 0 = some (ss14, ks14) := by kernel_rfl
theorem tree14 : tree Try.prog 12 (sumsIn sums11) 300 14 ss14 bare 0 ⟨ks14.map LK.rg, []⟩ = .leaf v14 := by kernel_rfl
def sums14 : List Sm := ⟨14, ss14, ks14, v14⟩ :: sums11
theorem sok14 : SumsOk Try.prog sums14 := sums_cons mixed sok11 args14 tree14 (by kernel_rfl)
def x15_9 : X := .not (.or (.and (.cmp .geq (.iv 0) (.lit (.ofNat 0))) (.cmp .leq (.iv 0) (.lit (.ofNat 4)))) (.cmp .eql (.iv 0) (.lit (.ofNat 7))))
def x15_12 : X := .bin .quo .i64 (.iv 2) (.lit (.ofNat 16384))
def x15_14 : X := .cmp .eql x15_12 (.lit (.ofNat 1))
def x15_15 : X := .not x15_14
def x15_17 : X := .cmp .eql x15_12 (.lit (.ofNat 2))
def x15_19 : X := .not x15_17
def x15_20 : X := .cmp .eql x15_12 (.lit (.ofNat 4))
def x15_23 : X := .not x15_20
def x15_25 : X := .cmp .eql x15_12 (.lit (.ofNat 8))
def x15_30 : X := .not x15_25
def x15_32 : X := .cmp .eql x15_12 (.lit (.ofNat 16))
def x15_53 : X := .cmp .geq (.ite x15_14 (.lit (.ofNat 0)) (.ite (.and x15_15 x15_17) (.lit (.ofNat 1)) (.ite (.and x15_15 (.and x15_19 x15_20)) (.lit (.ofNat 2)) (.ite (.and x15_15 (.and x15_19 (.and x15_23 x15_25))) (.lit (.ofNat 3)) (.ite (.and x15_15 (.and x15_19 (.and x15_23 (.and x15_30 x15_32)))) (.lit (.ofNat 4)) (.ite (.and x15_15 (.and x15_19 (.and x15_23 (.and x15_30 (.and (.not x15_32) (.cmp .eql x15_12 (.lit (.ofNat 32)))))))) (.lit (.ofNat 5)) (.lit (.negSucc 0)))))))) (.lit (.ofNat 0))
def x15_60 : X := .bin .quo .i64 (.iv 3) (.lit (.ofNat 8192))
def x15_61 : X := .cmp .eql x15_60 (.lit (.ofNat 1))
def x15_62 : X := .not x15_61
def x15_63 : X := .cmp .eql x15_60 (.lit (.ofNat 2))
def x15_65 : X := .not x15_63
def x15_66 : X := .cmp .eql x15_60 (.lit (.ofNat 4))
def x15_69 : X := .not x15_66
def x15_70 : X := .cmp .eql x15_60 (.lit (.ofNat 8))
def x15_74 : X := .not x15_70
def x15_75 : X := .cmp .eql x15_60 (.lit (.ofNat 16))
def x15_93 : X := .cmp .geq (.ite x15_61 (.lit (.ofNat 0)) (.ite (.and x15_62 x15_63) (.lit (.ofNat 1)) (.ite (.and x15_62 (.and x15_65 x15_66)) (.lit (.ofNat 2)) (.ite (.and x15_62 (.and x15_65 (.and x15_69 x15_70))) (.lit (.ofNat 3)) (.ite (.and x15_62 (.and x15_65 (.and x15_69 (.and x15_74 x15_75)))) (.lit (.ofNat 4)) (.ite (.and x15_62 (.and x15_65 (.and x15_69 (.and x15_74 (.and (.not x15_75) (.cmp .eql x15_60 (.lit (.ofNat 32)))))))) (.lit (.ofNat 5)) (.lit (.negSucc 0)))))))) (.lit (.ofNat 0))
def x15_102 : X := .or (.or (.not (.and x15_53 (.cmp .eql (.bin .rem .i64 (.iv 2) (.lit (.ofNat 16384))) (.lit (.ofNat 0))))) (.not (.and x15_93 (.cmp .eql (.bin .rem .i64 (.iv 3) (.lit (.ofNat 8192))) (.lit (.ofNat 0)))))) (.and (.bv 8) (.cmp .neq (.iv 3) (.lit (.ofNat 8192))))
def x15_118 : X := .ite (.or x15_9 (.or x15_102 (.or (.or (.cmp .lss (.iv 1) (.lit (.ofNat 0))) (.cmp .gtr (.iv 1) (.lit (.ofNat 15)))) (.and (.not (.bv 7)) (.cmp .neq (.iv 1) (.lit (.ofNat 0))))))) (.ite x15_9 (.lit (.ofNat 6)) (.ite x15_102 (.lit (.ofNat 5)) (.lit (.ofNat 1)))) (.lit (.ofNat 0))
def x15_119 : X := .cmp .neq x15_118 (.lit (.ofNat 0))
def x15_121 : X := .not x15_119
def v15 : ST := .tup [.agg [.ci .i64 (.ite x15_119 (.lit (.ofNat 0)) (.iv 0)), .cb (.and x15_121 (.bv 6)), .cb (.and x15_121 (.bv 5)), .ci .u8 (.lit (.ofNat 0)), .ci .u8 (.lit (.ofNat 0)), .ci .u8 (.ite x15_119 (.lit (.ofNat 0)) (.lit (.ofNat 12))), .ci .u8 (.lit (.ofNat 0)), .ci .u8 (.lit (.ofNat 0)), .ci .u8 (.lit (.ofNat 0)), .ci .i64 (.ite x15_119 (.lit (.ofNat 0)) (.lit (.negSucc 1))), .ci .u8 (.lit (.ofNat 0)), .ci .u8 (.lit (.ofNat 0)), .ci .u8 (.lit (.ofNat 0)), .ci .u8 (.lit (.ofNat 0)), .ci .u8 (.lit (.ofNat 0)), .ci .u8 (.lit (.ofNat 0)), .ci .u8 (.lit (.ofNat 0)), .ci .u8 (.lit (.ofNat 0)), .ci .u8 (.lit (.ofNat 0)), .ci .u8 (.lit (.ofNat 0)), .ci .u8 (.lit (.ofNat 0)), .ci .u8 (.lit (.ofNat 0)), .ci .u8 (.lit (.ofNat 0)), .cb (.bl false), .cb (.bl false), .cb (.bl false), .ci .i64 (.lit (.ofNat 0))], .c (.ci .i64 (.ite x15_119 x15_118 (.lit (.ofNat 0))))]
def ss15 : List SV := [.agg [.ci .i64 (.iv 0), .ci .i64 (.iv 1), .ci .i64 (.iv 2), .ci .i64 (.iv 3), .cb (.bv 4), .cb (.bv 5), .cb (.bv 6), .cb (.bv 7), .cb (.bv 8)]]
def ks15 : List LK := [.i .i64, .i .i64, .i .i64, .i .i64, .b, .b, .b, .b, .b]
theorem args15 : argTs Try.prog Try.f15.params.toList 0 = some (ss15, ks15) := by kernel_rfl
theorem tree15 : tree Try.prog 12 (sumsIn sums14) 300 15 ss15 bare 0 ⟨ks15.map LK.rg, []⟩ = .leaf v15 := by kernel_rfl
def sums15 : List Sm := ⟨15, ss15, ks15, v15⟩ :: sums14
theorem sok15 : SumsOk Try.prog sums15 := sums_cons mixed sok14 args15 tree15 (by kernel_rfl)
def v10 : ST := .v (.c (.cb (.bl true)))
def ss10 : List SV := []
def ks10 : List LK := []
theorem args10 : argTs Try.prog Try.f10.params.toList 0 = some (ss10, ks10) := by kernel_rfl
theorem tree10 : tree Try.prog 12 (sumsIn sums15) 300 10 ss10 bare 0 ⟨ks10.map LK.rg, []⟩ = .leaf v10 := by kernel_rfl
def sums10 : List Sm := ⟨10, ss10, ks10, v10⟩ :: sums15
theorem sok10 : SumsOk Try.prog sums10 := sums_cons mixed sok15 args10 tree10 (by kernel_rfl)
def ss5 : List SV := [.c (.ci .u8 (.iv 0)), .c (.ci .u8 (.iv 1)), .c (.cb (.bv 2))]
def ks5 : List LK := [.i .u8, .i .u8, .b]
def rs5 : List RowV := []
theorem args5 : argRs Try.prog Try.f5.params.toList 0 0 = some (ss5, ks5, rs5) := by kernel_rfl
def T (l : List (Nat × Ann)) (K : Known) : Prop := vcF Try.prog 0 (sumsIn sums10) 300 6 l 5 ss5 K = true
def V (K : Known) : Prop := X.prove 20 60 K (.bl false) = true
def c_0 : X := .cmp .eql (.bin .rem .u8 (.iv 1) (.lit (.ofNat 20))) (.lit (.ofNat 0))
def c_1 : X := .bv 2
def c_2 : X := .cmp .eql (.bin .rem .u8 (.iv 1) (.lit (.ofNat 20))) (.lit (.ofNat 1))
def c_3 : X := .cmp .eql (.bin .rem .u8 (.iv 1) (.lit (.ofNat 20))) (.lit (.ofNat 2))
def c_4 : X := .cmp .eql (.bin .rem .u8 (.iv 1) (.lit (.ofNat 20))) (.lit (.ofNat 3))
def c_5 : X := .cmp .eql (.bin .rem .u8 (.iv 1) (.lit (.ofNat 20))) (.lit (.ofNat 4))
def c_6 : X := .cmp .eql (.bin .rem .u8 (.iv 1) (.lit (.ofNat 20))) (.lit (.ofNat 5))
def c_7 : X := .cmp .eql (.bin .rem .u8 (.iv 1) (.lit (.ofNat 20))) (.lit (.ofNat 6))
def c_8 : X := .cmp .eql (.bin .rem .u8 (.iv 1) (.lit (.ofNat 20))) (.lit (.ofNat 7))
def c_9 : X := .cmp .eql (.bin .rem .u8 (.iv 1) (.lit (.ofNat 20))) (.lit (.ofNat 8))
def c_10 : X := .cmp .eql (.bin .rem .u8 (.iv 1) (.lit (.ofNat 20))) (.lit (.ofNat 9))
def c_11 : X := .cmp .eql (.bin .rem .u8 (.iv 1) (.lit (.ofNat 20))) (.lit (.ofNat 10))
def c_12 : X := .cmp .eql (.bin .rem .u8 (.iv 1) (.lit (.ofNat 20))) (.lit (.ofNat 11))
def c_13 : X := .cmp .eql (.bin .rem .u8 (.iv 1) (.lit (.ofNat 20))) (.lit (.ofNat 12))
def c_14 : X := .cmp .eql (.bin .rem .u8 (.iv 1) (.lit (.ofNat 20))) (.lit (.ofNat 13))
def c_15 : X := .cmp .eql (.bin .rem .u8 (.iv 1) (.lit (.ofNat 20))) (.lit (.ofNat 14))
def c_16 : X := .cmp .eql (.bin .rem .u8 (.iv 1) (.lit (.ofNat 20))) (.lit (.ofNat 15))
def c_17 : X := .cmp .eql (.bin .rem .u8 (.iv 1) (.lit (.ofNat 20))) (.lit (.ofNat 16))
def c_18 : X := .cmp .eql (.bin .rem .u8 (.iv 1) (.lit (.ofNat 20))) (.lit (.ofNat 17))
def c_19 : X := .cmp .eql (.bin .rem .u8 (.iv 1) (.lit (.ofNat 20))) (.lit (.ofNat 18))
def c_20 : X := .cmp .eql (.bin .rem .u8 (.iv 1) (.lit (.ofNat 20))) (.lit (.ofNat 19))
def K_0 : Known := addRows rs5 ⟨ks5.map LK.rg, []⟩
def K_1 : Known := K_0.assume c_0 true
def K_2 : Known := K_1.assume c_1 true
def K_3 : Known := K_1.assume c_1 false
def K_4 : Known := K_0.assume c_0 false
def K_5 : Known := K_4.assume c_2 true
def K_6 : Known := K_5.assume c_1 true
def K_7 : Known := K_5.assume c_1 false
def K_8 : Known := K_4.assume c_2 false
def K_9 : Known := K_8.assume c_3 true
def K_10 : Known := K_9.assume c_1 true
def K_11 : Known := K_9.assume c_1 false
def K_12 : Known := K_8.assume c_3 false
def K_13 : Known := K_12.assume c_4 true
def K_14 : Known := K_13.assume c_1 true
def K_15 : Known := K_13.assume c_1 false
def K_16 : Known := K_12.assume c_4 false
def K_17 : Known := K_16.assume c_5 true
def K_18 : Known := K_17.assume c_1 true
def K_19 : Known := K_17.assume c_1 false
def K_20 : Known := K_16.assume c_5 false
def K_21 : Known := K_20.assume c_6 true
def K_22 : Known := K_21.assume c_1 true
def K_23 : Known := K_21.assume c_1 false
def K_24 : Known := K_20.assume c_6 false
def K_25 : Known := K_24.assume c_7 true
def K_26 : Known := K_25.assume c_1 true
def K_27 : Known := K_25.assume c_1 false
def K_28 : Known := K_24.assume c_7 false
def K_29 : Known := K_28.assume c_8 true
def K_30 : Known := K_29.assume c_1 true
def K_31 : Known := K_29.assume c_1 false
def K_32 : Known := K_28.assume c_8 false
def K_33 : Known := K_32.assume c_9 true
def K_34 : Known := K_33.assume c_1 true
def K_35 : Known := K_33.assume c_1 false
def K_36 : Known := K_32.assume c_9 false
def K_37 : Known := K_36.assume c_10 true
def K_38 : Known := K_37.assume c_1 true
def K_39 : Known := K_37.assume c_1 false
def K_40 : Known := K_36.assume c_10 false
def K_41 : Known := K_40.assume c_11 true
def K_42 : Known := K_41.assume c_1 true
def K_43 : Known := K_41.assume c_1 false
def K_44 : Known := K_40.assume c_11 false
def K_45 : Known := K_44.assume c_12 true
def K_46 : Known := K_45.assume c_1 true
def K_47 : Known := K_45.assume c_1 false
def K_48 : Known := K_44.assume c_12 false
def K_49 : Known := K_48.assume c_13 true
def K_50 : Known := K_49.assume c_1 true
def K_51 : Known := K_49.assume c_1 false
def K_52 : Known := K_48.assume c_13 false
def K_53 : Known := K_52.assume c_14 true
def K_54 : Known := K_53.assume c_1 true
def K_55 : Known := K_53.assume c_1 false
def K_56 : Known := K_52.assume c_14 false
def K_57 : Known := K_56.assume c_15 true
def K_58 : Known := K_57.assume c_1 true
def K_59 : Known := K_57.assume c_1 false
def K_60 : Known := K_56.assume c_15 false
def K_61 : Known := K_60.assume c_16 true
def K_62 : Known := K_61.assume c_1 true
def K_63 : Known := K_61.assume c_1 false
def K_64 : Known := K_60.assume c_16 false
def K_65 : Known := K_64.assume c_17 true
def K_66 : Known := K_65.assume c_1 true
def K_67 : Known := K_65.assume c_1 false
def K_68 : Known := K_64.assume c_17 false
def K_69 : Known := K_68.assume c_18 true
def K_70 : Known := K_69.assume c_1 true
def K_71 : Known := K_69.assume c_1 false
def K_72 : Known := K_68.assume c_18 false
def K_73 : Known := K_72.assume c_19 true
def K_74 : Known := K_73.assume c_1 true
def K_75 : Known := K_73.assume c_1 false
def K_76 : Known := K_72.assume c_19 false
def K_77 : Known := K_76.assume c_20 true
def K_78 : Known := K_77.assume c_1 true
def K_79 : Known := K_77.assume c_1 false
def an_0 : Ann := ⟨[0, 1, 3, 4, 5, 8, 9, 10, 11, 22, 23, 24, 25, 26, 27, 28, 29, 30, 31, 32, 33, 34, 35, 36, 37, 38, 39, 40, 41, 42, 43, 44, 45, 46, 47, 48, 49, 50, 51, 52, 53, 54, 55, 56, 57, 58, 59, 60, 15, 18, 19, 61, 62, 63, 64, 65, 66, 67, 68, 69, 80, 81, 82, 83, 84, 85, 86, 87, 88, 89, 90, 91, 92, 93, 94, 95, 99, 100, 101, 102], [5], [(3, .bin .add .i64 (.iv 2) (.lit (.ofNat 1)))], false, [], false, [none, some (1, 258), some (0, 255), some (0, 255), some (0, 255), some (0, 255), some (0, 255), some (0, 255), some (0, 255)], [(.bv 0, true)], .bin .sub .i64 (.lit (.ofNat 300)) (.iv 1)⟩
theorem leaf_2 : T [(506, an_0)] K_2 := by unfold T; kernel_rfl
def an_1 : Ann := ⟨[0, 1, 3, 4, 5, 8, 9, 10, 11, 22, 23, 24, 25, 26, 27, 28, 29, 30, 31, 32, 33, 34, 35, 36, 37, 38, 39, 40, 41, 42, 43, 44, 45, 46, 47, 48, 49, 50, 51, 52, 53, 54, 55, 56, 57, 58, 59, 60, 15, 18, 19, 61, 62, 63, 64, 65, 66, 67, 68, 69, 80, 81, 82, 83, 84, 85, 86, 87, 88, 89, 90, 91, 94, 95, 99, 100, 101, 102], [5], [(3, .bin .add .i64 (.iv 2) (.lit (.ofNat 1)))], false, [], false, [none, some (1, 258), some (0, 255), some (0, 255), some (0, 255), some (0, 255), some (0, 255), some (0, 255)], [(.bv 0, false)], .bin .sub .i64 (.lit (.ofNat 300)) (.iv 1)⟩
theorem leaf_3 : T [(506, an_1)] K_3 := by unfold T; kernel_rfl
def an_2 : Ann := ⟨[0, 1, 3, 4, 5, 8, 9, 10, 11, 22, 23, 24, 25, 26, 27, 28, 29, 30, 31, 32, 33, 34, 35, 36, 37, 38, 39, 40, 41, 42, 43, 44, 45, 46, 47, 48, 49, 50, 51, 52, 53, 54, 55, 56, 57, 58, 59, 60, 15, 16, 17, 18, 19, 61, 62, 63, 64, 65, 66, 67, 68, 69, 70, 71, 72, 73, 74, 75, 76, 77, 78, 79, 80, 81, 82, 83, 84, 85, 86, 87, 88, 89, 90, 91, 92, 93, 94, 95, 99, 100, 101, 102], [5], [(3, .bin .add .i64 (.iv 2) (.lit (.ofNat 1)))], false, [], false, [none, some (1, 258), some (0, 255), some (0, 255), some (0, 255), some (0, 255), some (0, 255), some (0, 255), some (0, 255)], [(.bv 0, true)], .bin .sub .i64 (.lit (.ofNat 300)) (.iv 1)⟩
theorem leaf_6 : T [(506, an_2)] K_6 := by unfold T; kernel_rfl
def an_3 : Ann := ⟨[0, 1, 3, 4, 5, 8, 9, 10, 11, 22, 23, 24, 25, 26, 27, 28, 29, 30, 31, 32, 33, 34, 35, 36, 37, 38, 39, 40, 41, 42, 43, 44, 45, 46, 47, 48, 49, 50, 51, 52, 53, 54, 55, 56, 57, 58, 59, 60, 15, 16, 17, 18, 19, 61, 62, 63, 64, 65, 66, 67, 68, 69, 70, 71, 72, 73, 74, 75, 76, 77, 78, 79, 80, 81, 82, 83, 84, 85, 86, 87, 88, 89, 90, 91, 94, 95, 99, 100, 101, 102], [5], [(3, .bin .add .i64 (.iv 2) (.lit (.ofNat 1)))], false, [], false, [none, some (1, 258), some (0, 255), some (0, 255), some (0, 255), some (0, 255), some (0, 255), some (0, 255)], [(.bv 0, false)], .bin .sub .i64 (.lit (.ofNat 300)) (.iv 1)⟩
theorem leaf_7 : T [(506, an_3)] K_7 := by unfold T; kernel_rfl
theorem leaf_10 : T [(506, an_2)] K_10 := by unfold T; kernel_rfl
theorem leaf_11 : T [(506, an_3)] K_11 := by unfold T; kernel_rfl
theorem leaf_14 : T [(506, an_2)] K_14 := by unfold T; kernel_rfl
theorem leaf_15 : T [(506, an_3)] K_15 := by unfold T; kernel_rfl
theorem leaf_18 : T [(506, an_2)] K_18 := by unfold T; kernel_rfl
theorem leaf_19 : T [(506, an_3)] K_19 := by unfold T; kernel_rfl
theorem leaf_22 : T [(506, an_2)] K_22 := by unfold T; kernel_rfl
theorem leaf_23 : T [(506, an_3)] K_23 := by unfold T; kernel_rfl
theorem leaf_26 : T [(506, an_2)] K_26 := by unfold T; kernel_rfl
theorem leaf_27 : T [(506, an_3)] K_27 := by unfold T; kernel_rfl
theorem leaf_30 : T [(506, an_2)] K_30 := by unfold T; kernel_rfl
theorem leaf_31 : T [(506, an_3)] K_31 := by unfold T; kernel_rfl
def an_4 : Ann := ⟨[0, 1, 3, 4, 5, 8, 9, 10, 11, 22, 23, 24, 25, 26, 27, 28, 29, 30, 31, 32, 33, 34, 35, 36, 37, 38, 39, 40, 41, 42, 43, 44, 45, 46, 47, 48, 49, 50, 51, 52, 53, 54, 55, 56, 57, 58, 59, 60, 15, 16, 17, 18, 19, 61, 62, 63, 64, 65, 66, 67, 68, 69, 70, 71, 72, 73, 74, 75, 76, 77, 78, 79, 80, 81, 82, 83, 84, 85, 86, 87, 88, 89, 90, 91, 92, 93, 94, 95, 96, 97, 98, 99, 100, 101, 102], [5, 28, 31], [(3, .bin .add .i64 (.iv 1) (.lit (.ofNat 1))), (5, .bin .sub .i64 (.bin .add .i64 (.iv 1) (.lit (.ofNat 2))) (.iv 2)), (29, .bl false), (31, .cmp .eql (.iv 2) (.lit (.ofNat 0)))], true, [.cmp .eql (.iv 2) (.lit (.ofNat 0)), .cmp .eql (.iv 2) (.lit (.ofNat 1))], true, [none, some (0, 255), some (0, 255), some (0, 255), some (0, 255), some (0, 255), some (0, 255), some (0, 255), some (0, 255)], [(.bv 0, true), (.cmp .leq (.iv 2) (.iv 1), true)], .bin .add .i64 (.iv 2) (.lit (.ofNat 1))⟩
theorem leaf_34 : T [(506, an_4)] K_34 := by unfold T; kernel_rfl
def an_5 : Ann := ⟨[0, 1, 3, 4, 5, 8, 9, 10, 11, 22, 23, 24, 25, 26, 27, 28, 29, 30, 31, 32, 33, 34, 35, 36, 37, 38, 39, 40, 41, 42, 43, 44, 45, 46, 47, 48, 49, 50, 51, 52, 53, 54, 55, 56, 57, 58, 59, 60, 15, 16, 17, 18, 19, 61, 62, 63, 64, 65, 66, 67, 68, 69, 70, 71, 72, 73, 74, 75, 76, 77, 78, 79, 80, 81, 82, 83, 84, 85, 86, 87, 88, 89, 90, 91, 94, 95, 99, 100, 101, 102], [5, 28], [(3, .bin .add .i64 (.iv 1) (.lit (.ofNat 1))), (5, .bin .sub .i64 (.bin .add .i64 (.iv 1) (.lit (.ofNat 2))) (.iv 2)), (29, .bl false), (31, .bl false)], true, [.cmp .eql (.iv 2) (.lit (.ofNat 0)), .cmp .eql (.iv 2) (.lit (.ofNat 1))], true, [none, some (0, 255), some (0, 255), some (0, 255), some (0, 255), some (0, 255), some (0, 255), some (0, 255)], [(.bv 0, false), (.cmp .leq (.iv 2) (.iv 1), true)], .bin .add .i64 (.iv 2) (.lit (.ofNat 1))⟩
theorem leaf_35 : T [(506, an_5)] K_35 := by unfold T; kernel_rfl
theorem leaf_38 : T [(506, an_4)] K_38 := by unfold T; kernel_rfl
theorem leaf_39 : T [(506, an_5)] K_39 := by unfold T; kernel_rfl
theorem leaf_42 : T [(506, an_4)] K_42 := by unfold T; kernel_rfl
theorem leaf_43 : T [(506, an_5)] K_43 := by unfold T; kernel_rfl
theorem leaf_46 : T [(506, an_4)] K_46 := by unfold T; kernel_rfl
theorem leaf_47 : T [(506, an_5)] K_47 := by unfold T; kernel_rfl
theorem leaf_50 : T [(506, an_4)] K_50 := by unfold T; kernel_rfl
theorem leaf_51 : T [(506, an_5)] K_51 := by unfold T; kernel_rfl
theorem leaf_54 : T [(506, an_4)] K_54 := by unfold T; kernel_rfl
theorem leaf_55 : T [(506, an_5)] K_55 := by unfold T; kernel_rfl
theorem leaf_58 : T [(506, an_4)] K_58 := by unfold T; kernel_rfl
theorem leaf_59 : T [(506, an_5)] K_59 := by unfold T; kernel_rfl
theorem leaf_62 : T [(506, an_4)] K_62 := by unfold T; kernel_rfl
theorem leaf_63 : T [(506, an_5)] K_63 := by unfold T; kernel_rfl
theorem leaf_66 : T [(506, an_4)] K_66 := by unfold T; kernel_rfl
theorem leaf_67 : T [(506, an_5)] K_67 := by unfold T; kernel_rfl
theorem leaf_70 : T [(506, an_4)] K_70 := by unfold T; kernel_rfl
theorem leaf_71 : T [(506, an_5)] K_71 := by unfold T; kernel_rfl
theorem leaf_74 : T [(506, an_4)] K_74 := by unfold T; kernel_rfl
theorem leaf_75 : T [(506, an_5)] K_75 := by unfold T; kernel_rfl
theorem leaf_78 : T [(506, an_4)] K_78 := by unfold T; kernel_rfl
theorem leaf_79 : T [(506, an_5)] K_79 := by unfold T; kernel_rfl
theorem know_76 : X.proveE 300 1000 K_76 c_20 = true := by kernel_rfl
theorem plan5 : ∀ ρ, (addRows rs5 ⟨ks5.map LK.rg, []⟩).ok ρ → ∃ K anns, K.ok ρ ∧ vcF Try.prog 0 (sumsIn sums10) 300 6 anns 5 ss5 K = true := fun _ h => split_on c_0 h (fun (h : K_1.ok _) => split_on c_1 h (fun (h : K_2.ok _) => ⟨K_2, [(506, an_0)], h, leaf_2⟩) (fun (h : K_3.ok _) => ⟨K_3, [(506, an_1)], h, leaf_3⟩)) (fun (h : K_4.ok _) => split_on c_2 h (fun (h : K_5.ok _) => split_on c_1 h (fun (h : K_6.ok _) => ⟨K_6, [(506, an_2)], h, leaf_6⟩) (fun (h : K_7.ok _) => ⟨K_7, [(506, an_3)], h, leaf_7⟩)) (fun (h : K_8.ok _) => split_on c_3 h (fun (h : K_9.ok _) => split_on c_1 h (fun (h : K_10.ok _) => ⟨K_10, [(506, an_2)], h, leaf_10⟩) (fun (h : K_11.ok _) => ⟨K_11, [(506, an_3)], h, leaf_11⟩)) (fun (h : K_12.ok _) => split_on c_4 h (fun (h : K_13.ok _) => split_on c_1 h (fun (h : K_14.ok _) => ⟨K_14, [(506, an_2)], h, leaf_14⟩) (fun (h : K_15.ok _) => ⟨K_15, [(506, an_3)], h, leaf_15⟩)) (fun (h : K_16.ok _) => split_on c_5 h (fun (h : K_17.ok _) => split_on c_1 h (fun (h : K_18.ok _) => ⟨K_18, [(506, an_2)], h, leaf_18⟩) (fun (h : K_19.ok _) => ⟨K_19, [(506, an_3)], h, leaf_19⟩)) (fun (h : K_20.ok _) => split_on c_6 h (fun (h : K_21.ok _) => split_on c_1 h (fun (h : K_22.ok _) => ⟨K_22, [(506, an_2)], h, leaf_22⟩) (fun (h : K_23.ok _) => ⟨K_23, [(506, an_3)], h, leaf_23⟩)) (fun (h : K_24.ok _) => split_on c_7 h (fun (h : K_25.ok _) => split_on c_1 h (fun (h : K_26.ok _) => ⟨K_26, [(506, an_2)], h, leaf_26⟩) (fun (h : K_27.ok _) => ⟨K_27, [(506, an_3)], h, leaf_27⟩)) (fun (h : K_28.ok _) => split_on c_8 h (fun (h : K_29.ok _) => split_on c_1 h (fun (h : K_30.ok _) => ⟨K_30, [(506, an_2)], h, leaf_30⟩) (fun (h : K_31.ok _) => ⟨K_31, [(506, an_3)], h, leaf_31⟩)) (fun (h : K_32.ok _) => split_on c_9 h (fun (h : K_33.ok _) => split_on c_1 h (fun (h : K_34.ok _) => ⟨K_34, [(506, an_4)], h, leaf_34⟩) (fun (h : K_35.ok _) => ⟨K_35, [(506, an_5)], h, leaf_35⟩)) (fun (h : K_36.ok _) => split_on c_10 h (fun (h : K_37.ok _) => split_on c_1 h (fun (h : K_38.ok _) => ⟨K_38, [(506, an_4)], h, leaf_38⟩) (fun (h : K_39.ok _) => ⟨K_39, [(506, an_5)], h, leaf_39⟩)) (fun (h : K_40.ok _) => split_on c_11 h (fun (h : K_41.ok _) => split_on c_1 h (fun (h : K_42.ok _) => ⟨K_42, [(506, an_4)], h, leaf_42⟩) (fun (h : K_43.ok _) => ⟨K_43, [(506, an_5)], h, leaf_43⟩)) (fun (h : K_44.ok _) => split_on c_12 h (fun (h : K_45.ok _) => split_on c_1 h (fun (h : K_46.ok _) => ⟨K_46, [(506, an_4)], h, leaf_46⟩) (fun (h : K_47.ok _) => ⟨K_47, [(506, an_5)], h, leaf_47⟩)) (fun (h : K_48.ok _) => split_on c_13 h (fun (h : K_49.ok _) => split_on c_1 h (fun (h : K_50.ok _) => ⟨K_50, [(506, an_4)], h, leaf_50⟩) (fun (h : K_51.ok _) => ⟨K_51, [(506, an_5)], h, leaf_51⟩)) (fun (h : K_52.ok _) => split_on c_14 h (fun (h : K_53.ok _) => split_on c_1 h (fun (h : K_54.ok _) => ⟨K_54, [(506, an_4)], h, leaf_54⟩) (fun (h : K_55.ok _) => ⟨K_55, [(506, an_5)], h, leaf_55⟩)) (fun (h : K_56.ok _) => split_on c_15 h (fun (h : K_57.ok _) => split_on c_1 h (fun (h : K_58.ok _) => ⟨K_58, [(506, an_4)], h, leaf_58⟩) (fun (h : K_59.ok _) => ⟨K_59, [(506, an_5)], h, leaf_59⟩)) (fun (h : K_60.ok _) => split_on c_16 h (fun (h : K_61.ok _) => split_on c_1 h (fun (h : K_62.ok _) => ⟨K_62, [(506, an_4)], h, leaf_62⟩) (fun (h : K_63.ok _) => ⟨K_63, [(506, an_5)], h, leaf_63⟩)) (fun (h : K_64.ok _) => split_on c_17 h (fun (h : K_65.ok _) => split_on c_1 h (fun (h : K_66.ok _) => ⟨K_66, [(506, an_4)], h, leaf_66⟩) (fun (h : K_67.ok _) => ⟨K_67, [(506, an_5)], h, leaf_67⟩)) (fun (h : K_68.ok _) => split_on c_18 h (fun (h : K_69.ok _) => split_on c_1 h (fun (h : K_70.ok _) => ⟨K_70, [(506, an_4)], h, leaf_70⟩) (fun (h : K_71.ok _) => ⟨K_71, [(506, an_5)], h, leaf_71⟩)) (fun (h : K_72.ok _) => split_on c_19 h (fun (h : K_73.ok _) => split_on c_1 h (fun (h : K_74.ok _) => ⟨K_74, [(506, an_4)], h, leaf_74⟩) (fun (h : K_75.ok _) => ⟨K_75, [(506, an_5)], h, leaf_75⟩)) (fun (h : K_76.ok _) => split_know c_20 h know_76 (fun (h : K_77.ok _) => split_on c_1 h (fun (h : K_78.ok _) => ⟨K_78, [(506, an_4)], h, leaf_78⟩) (fun (h : K_79.ok _) => ⟨K_79, [(506, an_5)], h, leaf_79⟩)))))))))))))))))))))

def zeros : Env := ⟨fun _ => 0, fun _ => false, fun _ _ => 0, fun _ _ => true, fun _ => .bool false, fun _ => ⟨⟨0, 0, none⟩, .cells #[] 0 (0, 0)⟩⟩
set_option maxRecDepth 100000 in
theorem lifted5 (os : Os) (started : os.Started) (H : Type) (enc : TypeId × Value → H) :
    ReturnsInHanded {} Try.checked os 5 .any (Rows.mapperCountsSpec.pre6 enc Try.prog Try.f5 Rows.mapperCountsRow.domain false) (Rows.mapperCountsSpec.post enc Try.prog Try.f5 false true false false) := by
  refine returnsInHanded_of_change (C := Try.checked) own started (by kernel_rfl) Try.func5
    (ChangeSpec.witness6 (enc := enc) (C := Try.checked) false ⟨#[], (ss5.map (SV.den zeros fun _ => 0)).toArray, []⟩ 8 (by kernel_rfl) (by kernel_rfl) (by kernel_rfl) (by kernel_rfl)) ?_
  intro W base args ds gs before hval0 hW _ _
  have hval : ∀ (j : Nat) t v, Try.f5.params[j]? = some t → args[j]? = some v → Value.okWide Try.prog W .any base t v := hval0
  have hW' := hW
  obtain ⟨p, q, hA0, hV, rfl, _, _⟩ := hW
  have hA : DataW.TrodAll enc Try.prog W 0 (fun _ => true) true Try.f5.params.toList args.toList ds p := hA0
  obtain ⟨rfl, rfl⟩ := trodVars_none hV
  have hA1 := hA
  rw [Try.params5] at hA1
  obtain ⟨v0, v1, v2, d0, d1, d2, p0, p1, p2, _, rfl, _, _, _, _⟩ := trodAll_three hA1
  refine (rows_vc (r := .any) (base := base) mixed sok10 args5 plan5 (fun j t v ht hv => hval j t v (by simpa using ht) hv) hA).mono fun e W' ⟨⟨v, he, hv⟩, hb⟩ => ?_
  subst hv
  subst he
  exact ⟨_, rfl, law_post (tb := 4) laid rfl (by rw [Try.params5]; intro t ht; simp at ht; first | (subst ht; exact ⟨by kernel_rfl, of_decide_eq_true (by kernel_rfl)⟩) | (rcases ht with rfl | rfl <;> exact ⟨by kernel_rfl, of_decide_eq_true (by kernel_rfl)⟩) | (rcases ht with rfl | rfl | rfl <;> exact ⟨by kernel_rfl, of_decide_eq_true (by kernel_rfl)⟩)) rfl Try.underlying4 hW' hA hb ⟨rfl, rfl, rfl⟩⟩

theorem mapperCounts_holds : Rows.MapperCountsSaid :=
  OpenClaim.holds_of_wide 5 Try.f5 rfl rfl rfl rfl rfl rfl rfl ⟨rfl, rfl, rfl, rfl, rfl⟩ rfl rfl rfl rfl rfl (by kernel_rfl) Try.func5 (by kernel_rfl)
    (of_decide_eq_true (by kernel_rfl)) (by unfold Func.isWrapper; first | (rw [if_pos (by decide +kernel)]; kernel_rfl) | (rw [if_neg (by decide +kernel)]; exact ⟨rfl, rfl⟩))
    (fun os started H enc _ => lifted5 os started H enc)
#print axioms mapperCounts_holds
end Go.Proofs.Ytnjjdakmpkddhaa
