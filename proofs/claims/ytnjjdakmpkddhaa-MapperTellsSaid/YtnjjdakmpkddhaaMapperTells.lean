/- For every input MapperTells answers true. -/
import Derived.Test.YtnjjdakmpkddhaaRows
import Derived.Test.YtnjjdakmpkddhaaSx21
namespace Go.Proofs.Ytnjjdakmpkddhaa
open Go.ChangeShapes Go.WideShapes Go.ChangeAt Go.RowKit Go.Sx

theorem own : ownKnob Try.prog.godebug = none := by kernel_rfl
theorem laid : laidOutB Try.prog = true := by kernel_rfl
theorem mixed : Try.prog.follows .mixedOrders = true := by kernel_rfl

def v26 : ST := .v (.c (.cb (.or (.and (.cmp .geq (.iv 0) (.lit (.ofNat 0))) (.cmp .leq (.iv 0) (.lit (.ofNat 4)))) (.cmp .eql (.iv 0) (.lit (.ofNat 7))))))
def ss26 : List SV := [.c (.ci .i64 (.iv 0))]
def ks26 : List LK := [.i .i64]
theorem args26 : argTs Try.prog Try.f26.params.toList 0 = some (ss26, ks26) := by kernel_rfl
theorem tree26 : tree Try.prog 12 (sumsIn []) 300 26 ss26 bare 0 ⟨ks26.map LK.rg, []⟩ = .leaf v26 := by kernel_rfl
def sums26 : List Sm := ⟨26, ss26, ks26, v26⟩ :: []
theorem sok26 : SumsOk Try.prog sums26 := sums_cons mixed sums_nil args26 tree26 (by kernel_rfl)
def x21_9 : X := .not (.or (.and (.cmp .geq (.iv 0) (.lit (.ofNat 0))) (.cmp .leq (.iv 0) (.lit (.ofNat 4)))) (.cmp .eql (.iv 0) (.lit (.ofNat 7))))
def x21_12 : X := .bin .quo .i64 (.iv 2) (.lit (.ofNat 16384))
def x21_14 : X := .cmp .eql x21_12 (.lit (.ofNat 1))
def x21_15 : X := .not x21_14
def x21_17 : X := .cmp .eql x21_12 (.lit (.ofNat 2))
def x21_19 : X := .not x21_17
def x21_20 : X := .cmp .eql x21_12 (.lit (.ofNat 4))
def x21_23 : X := .not x21_20
def x21_25 : X := .cmp .eql x21_12 (.lit (.ofNat 8))
def x21_30 : X := .not x21_25
def x21_32 : X := .cmp .eql x21_12 (.lit (.ofNat 16))
def x21_53 : X := .cmp .geq (.ite x21_14 (.lit (.ofNat 0)) (.ite (.and x21_15 x21_17) (.lit (.ofNat 1)) (.ite (.and x21_15 (.and x21_19 x21_20)) (.lit (.ofNat 2)) (.ite (.and x21_15 (.and x21_19 (.and x21_23 x21_25))) (.lit (.ofNat 3)) (.ite (.and x21_15 (.and x21_19 (.and x21_23 (.and x21_30 x21_32)))) (.lit (.ofNat 4)) (.ite (.and x21_15 (.and x21_19 (.and x21_23 (.and x21_30 (.and (.not x21_32) (.cmp .eql x21_12 (.lit (.ofNat 32)))))))) (.lit (.ofNat 5)) (.lit (.negSucc 0)))))))) (.lit (.ofNat 0))
def x21_60 : X := .bin .quo .i64 (.iv 3) (.lit (.ofNat 8192))
def x21_61 : X := .cmp .eql x21_60 (.lit (.ofNat 1))
def x21_62 : X := .not x21_61
def x21_63 : X := .cmp .eql x21_60 (.lit (.ofNat 2))
def x21_65 : X := .not x21_63
def x21_66 : X := .cmp .eql x21_60 (.lit (.ofNat 4))
def x21_69 : X := .not x21_66
def x21_70 : X := .cmp .eql x21_60 (.lit (.ofNat 8))
def x21_74 : X := .not x21_70
def x21_75 : X := .cmp .eql x21_60 (.lit (.ofNat 16))
def x21_93 : X := .cmp .geq (.ite x21_61 (.lit (.ofNat 0)) (.ite (.and x21_62 x21_63) (.lit (.ofNat 1)) (.ite (.and x21_62 (.and x21_65 x21_66)) (.lit (.ofNat 2)) (.ite (.and x21_62 (.and x21_65 (.and x21_69 x21_70))) (.lit (.ofNat 3)) (.ite (.and x21_62 (.and x21_65 (.and x21_69 (.and x21_74 x21_75)))) (.lit (.ofNat 4)) (.ite (.and x21_62 (.and x21_65 (.and x21_69 (.and x21_74 (.and (.not x21_75) (.cmp .eql x21_60 (.lit (.ofNat 32)))))))) (.lit (.ofNat 5)) (.lit (.negSucc 0)))))))) (.lit (.ofNat 0))
def x21_102 : X := .or (.or (.not (.and x21_53 (.cmp .eql (.bin .rem .i64 (.iv 2) (.lit (.ofNat 16384))) (.lit (.ofNat 0))))) (.not (.and x21_93 (.cmp .eql (.bin .rem .i64 (.iv 3) (.lit (.ofNat 8192))) (.lit (.ofNat 0)))))) (.and (.bv 8) (.cmp .neq (.iv 3) (.lit (.ofNat 8192))))
def v21 : ST := .v (.c (.ci .i64 (.ite (.or x21_9 (.or x21_102 (.or (.or (.cmp .lss (.iv 1) (.lit (.ofNat 0))) (.cmp .gtr (.iv 1) (.lit (.ofNat 15)))) (.and (.not (.bv 7)) (.cmp .neq (.iv 1) (.lit (.ofNat 0))))))) (.ite x21_9 (.lit (.ofNat 6)) (.ite x21_102 (.lit (.ofNat 5)) (.lit (.ofNat 1)))) (.lit (.ofNat 0)))))
def ss21 : List SV := [.agg [.ci .i64 (.iv 0), .ci .i64 (.iv 1), .ci .i64 (.iv 2), .ci .i64 (.iv 3), .cb (.bv 4), .cb (.bv 5), .cb (.bv 6), .cb (.bv 7), .cb (.bv 8)]]
def ks21 : List LK := [.i .i64, .i .i64, .i .i64, .i .i64, .b, .b, .b, .b, .b]
theorem args21 : argTs Try.prog Try.f21.params.toList 0 = some (ss21, ks21) := by kernel_rfl
theorem tree21 : tree Try.prog 12 (sumsIn sums26) 300 21 ss21 bare 0 ⟨ks21.map LK.rg, []⟩ = .leaf v21 := by kernel_rfl
def sums21 : List Sm := ⟨21, ss21, ks21, v21⟩ :: sums26
theorem sok21 : SumsOk Try.prog sums21 := sums_cons mixed sok26 args21 tree21 (by kernel_rfl)
def x15_9 : X := .not (.or (.and (.cmp .geq (.iv 0) (.lit (.ofNat 0))) (.cmp .leq (.iv 0) (.lit (.ofNat 4)))) (.cmp .eql (.iv 0) (.lit (.ofNat 7))))
def x15_12 : X := .bin .quo .i64 (.iv 2) (.lit (.ofNat 16384))
def x15_14 : X := .cmp .eql x15_12 (.lit (.ofNat 1))
def x15_15 : X := .not x15_14
def x15_17 : X := .cmp .eql x15_12 (.lit (.ofNat 2))
def x15_19 : X := .not x15_17
def x15_20 : X := .cmp .eql x15_12 (.lit (.ofNat 4))
def x15_23 : X := .not x15_20
def x15_25 : X := .cmp .eql x15_12 (.lit (.ofNat 8))
def x15_30 : X := .not x15_25
def x15_32 : X := .cmp .eql x15_12 (.lit (.ofNat 16))
def x15_53 : X := .cmp .geq (.ite x15_14 (.lit (.ofNat 0)) (.ite (.and x15_15 x15_17) (.lit (.ofNat 1)) (.ite (.and x15_15 (.and x15_19 x15_20)) (.lit (.ofNat 2)) (.ite (.and x15_15 (.and x15_19 (.and x15_23 x15_25))) (.lit (.ofNat 3)) (.ite (.and x15_15 (.and x15_19 (.and x15_23 (.and x15_30 x15_32)))) (.lit (.ofNat 4)) (.ite (.and x15_15 (.and x15_19 (.and x15_23 (.and x15_30 (.and (.not x15_32) (.cmp .eql x15_12 (.lit (.ofNat 32)))))))) (.lit (.ofNat 5)) (.lit (.negSucc 0)))))))) (.lit (.ofNat 0))
def x15_60 : X := .bin .quo .i64 (.iv 3) (.lit (.ofNat 8192))
def x15_61 : X := .cmp .eql x15_60 (.lit (.ofNat 1))
def x15_62 : X := .not x15_61
def x15_63 : X := .cmp .eql x15_60 (.lit (.ofNat 2))
def x15_65 : X := .not x15_63
def x15_66 : X := .cmp .eql x15_60 (.lit (.ofNat 4))
def x15_69 : X := .not x15_66
def x15_70 : X := .cmp .eql x15_60 (.lit (.ofNat 8))
def x15_74 : X := .not x15_70
def x15_75 : X := .cmp .eql x15_60 (.lit (.ofNat 16))
def x15_93 : X := .cmp .geq (.ite x15_61 (.lit (.ofNat 0)) (.ite (.and x15_62 x15_63) (.lit (.ofNat 1)) (.ite (.and x15_62 (.and x15_65 x15_66)) (.lit (.ofNat 2)) (.ite (.and x15_62 (.and x15_65 (.and x15_69 x15_70))) (.lit (.ofNat 3)) (.ite (.and x15_62 (.and x15_65 (.and x15_69 (.and x15_74 x15_75)))) (.lit (.ofNat 4)) (.ite (.and x15_62 (.and x15_65 (.and x15_69 (.and x15_74 (.and (.not x15_75) (.cmp .eql x15_60 (.lit (.ofNat 32)))))))) (.lit (.ofNat 5)) (.lit (.negSucc 0)))))))) (.lit (.ofNat 0))
def x15_102 : X := .or (.or (.not (.and x15_53 (.cmp .eql (.bin .rem .i64 (.iv 2) (.lit (.ofNat 16384))) (.lit (.ofNat 0))))) (.not (.and x15_93 (.cmp .eql (.bin .rem .i64 (.iv 3) (.lit (.ofNat 8192))) (.lit (.ofNat 0)))))) (.and (.bv 8) (.cmp .neq (.iv 3) (.lit (.ofNat 8192))))
def x15_118 : X := .ite (.or x15_9 (.or x15_102 (.or (.or (.cmp .lss (.iv 1) (.lit (.ofNat 0))) (.cmp .gtr (.iv 1) (.lit (.ofNat 15)))) (.and (.not (.bv 7)) (.cmp .neq (.iv 1) (.lit (.ofNat 0))))))) (.ite x15_9 (.lit (.ofNat 6)) (.ite x15_102 (.lit (.ofNat 5)) (.lit (.ofNat 1)))) (.lit (.ofNat 0))
def x15_119 : X := .cmp .neq x15_118 (.lit (.ofNat 0))
def x15_121 : X := .not x15_119
def v15 : ST := .tup [.agg [.ci .i64 (.ite x15_119 (.lit (.ofNat 0)) (.iv 0)), .cb (.and x15_121 (.bv 6)), .cb (.and x15_121 (.bv 5)), .ci .u8 (.lit (.ofNat 0)), .ci .u8 (.lit (.ofNat 0)), .ci .u8 (.ite x15_119 (.lit (.ofNat 0)) (.lit (.ofNat 12))), .ci .u8 (.lit (.ofNat 0)), .ci .u8 (.lit (.ofNat 0)), .ci .u8 (.lit (.ofNat 0)), .ci .i64 (.ite x15_119 (.lit (.ofNat 0)) (.lit (.negSucc 1))), .ci .u8 (.lit (.ofNat 0)), .ci .u8 (.lit (.ofNat 0)), .ci .u8 (.lit (.ofNat 0)), .ci .u8 (.lit (.ofNat 0)), .ci .u8 (.lit (.ofNat 0)), .ci .u8 (.lit (.ofNat 0)), .ci .u8 (.lit (.ofNat 0)), .ci .u8 (.lit (.ofNat 0)), .ci .u8 (.lit (.ofNat 0)), .ci .u8 (.lit (.ofNat 0)), .ci .u8 (.lit (.ofNat 0)), .ci .u8 (.lit (.ofNat 0)), .ci .u8 (.lit (.ofNat 0)), .cb (.bl false), .cb (.bl false), .cb (.bl false), .ci .i64 (.lit (.ofNat 0))], .c (.ci .i64 (.ite x15_119 x15_118 (.lit (.ofNat 0))))]
def ss15 : List SV := [.agg [.ci .i64 (.iv 0), .ci .i64 (.iv 1), .ci .i64 (.iv 2), .ci .i64 (.iv 3), .cb (.bv 4), .cb (.bv 5), .cb (.bv 6), .cb (.bv 7), .cb (.bv 8)]]
def ks15 : List LK := [.i .i64, .i .i64, .i .i64, .i .i64, .b, .b, .b, .b, .b]
theorem args15 : argTs Try.prog Try.f15.params.toList 0 = some (ss15, ks15) := by kernel_rfl
theorem tree15 : tree Try.prog 12 (sumsIn sums21) 300 15 ss15 bare 0 ⟨ks15.map LK.rg, []⟩ = .leaf v15 := by kernel_rfl
def sums15 : List Sm := ⟨15, ss15, ks15, v15⟩ :: sums21
theorem sok15 : SumsOk Try.prog sums15 := sums_cons mixed sok21 args15 tree15 (by kernel_rfl)
def v16 : ST := .v (.c (.ci .i64 (.ite (.and (.and (.and (.and (.and (.cmp .neq (.iv 0) (.lit (.ofNat 0))) (.cmp .neq (.iv 0) (.lit (.ofNat 1)))) (.cmp .neq (.iv 0) (.lit (.ofNat 2)))) (.cmp .neq (.iv 0) (.lit (.ofNat 3)))) (.cmp .neq (.iv 0) (.lit (.ofNat 4)))) (.cmp .neq (.iv 0) (.lit (.ofNat 7)))) (.lit (.ofNat 6)) (.ite (.or (.or (.cmp .neq (.ite (.cmp .lss (.lit (.ofNat 16384)) (.iv 2)) (.ite (.cmp .lss (.lit (.ofNat 32768)) (.iv 2)) (.ite (.cmp .lss (.lit (.ofNat 65536)) (.iv 2)) (.ite (.cmp .lss (.lit (.ofNat 131072)) (.iv 2)) (.ite (.cmp .lss (.lit (.ofNat 262144)) (.iv 2)) (.lit (.ofNat 524288)) (.lit (.ofNat 262144))) (.lit (.ofNat 131072))) (.lit (.ofNat 65536))) (.lit (.ofNat 32768))) (.lit (.ofNat 16384))) (.iv 2)) (.cmp .neq (.ite (.cmp .lss (.lit (.ofNat 8192)) (.iv 3)) (.ite (.cmp .lss (.lit (.ofNat 16384)) (.iv 3)) (.ite (.cmp .lss (.lit (.ofNat 32768)) (.iv 3)) (.ite (.cmp .lss (.lit (.ofNat 65536)) (.iv 3)) (.ite (.cmp .lss (.lit (.ofNat 131072)) (.iv 3)) (.lit (.ofNat 262144)) (.lit (.ofNat 131072))) (.lit (.ofNat 65536))) (.lit (.ofNat 32768))) (.lit (.ofNat 16384))) (.lit (.ofNat 8192))) (.iv 3))) (.and (.bv 8) (.cmp .neq (.iv 3) (.lit (.ofNat 8192))))) (.lit (.ofNat 5)) (.ite (.or (.or (.cmp .lss (.iv 1) (.lit (.ofNat 0))) (.cmp .gtr (.iv 1) (.lit (.ofNat 15)))) (.and (.cmp .gtr (.iv 1) (.lit (.ofNat 0))) (.not (.bv 7)))) (.lit (.ofNat 1)) (.lit (.ofNat 0)))))))
def ss16 : List SV := [.agg [.ci .i64 (.iv 0), .ci .i64 (.iv 1), .ci .i64 (.iv 2), .ci .i64 (.iv 3), .cb (.bv 4), .cb (.bv 5), .cb (.bv 6), .cb (.bv 7), .cb (.bv 8)]]
def ks16 : List LK := [.i .i64, .i .i64, .i .i64, .i .i64, .b, .b, .b, .b, .b]
theorem args16 : argTs Try.prog Try.f16.params.toList 0 = some (ss16, ks16) := by kernel_rfl
theorem tree16 : tree Try.prog 12 (sumsIn sums15) 300 16 ss16 bare 0 ⟨ks16.map LK.rg, []⟩ = .leaf v16 := by kernel_rfl
def e16_K : Known := ⟨ks16.map LK.rg, []⟩
def e16_g : X := .cmp .eql v16.num v21.num
def e16_q0 : X := .cmp .geq (.ite (.cmp .eql (.bin .quo .i64 (.iv 2) (.lit (.ofNat 16384))) (.lit (.ofNat 1))) (.lit (.ofNat 0)) (.ite (.and (.not (.cmp .eql (.bin .quo .i64 (.iv 2) (.lit (.ofNat 16384))) (.lit (.ofNat 1)))) (.cmp .eql (.bin .quo .i64 (.iv 2) (.lit (.ofNat 16384))) (.lit (.ofNat 2)))) (.lit (.ofNat 1)) (.ite (.and (.not (.cmp .eql (.bin .quo .i64 (.iv 2) (.lit (.ofNat 16384))) (.lit (.ofNat 1)))) (.and (.not (.cmp .eql (.bin .quo .i64 (.iv 2) (.lit (.ofNat 16384))) (.lit (.ofNat 2)))) (.cmp .eql (.bin .quo .i64 (.iv 2) (.lit (.ofNat 16384))) (.lit (.ofNat 4))))) (.lit (.ofNat 2)) (.ite (.and (.not (.cmp .eql (.bin .quo .i64 (.iv 2) (.lit (.ofNat 16384))) (.lit (.ofNat 1)))) (.and (.not (.cmp .eql (.bin .quo .i64 (.iv 2) (.lit (.ofNat 16384))) (.lit (.ofNat 2)))) (.and (.not (.cmp .eql (.bin .quo .i64 (.iv 2) (.lit (.ofNat 16384))) (.lit (.ofNat 4)))) (.cmp .eql (.bin .quo .i64 (.iv 2) (.lit (.ofNat 16384))) (.lit (.ofNat 8)))))) (.lit (.ofNat 3)) (.ite (.and (.not (.cmp .eql (.bin .quo .i64 (.iv 2) (.lit (.ofNat 16384))) (.lit (.ofNat 1)))) (.and (.not (.cmp .eql (.bin .quo .i64 (.iv 2) (.lit (.ofNat 16384))) (.lit (.ofNat 2)))) (.and (.not (.cmp .eql (.bin .quo .i64 (.iv 2) (.lit (.ofNat 16384))) (.lit (.ofNat 4)))) (.and (.not (.cmp .eql (.bin .quo .i64 (.iv 2) (.lit (.ofNat 16384))) (.lit (.ofNat 8)))) (.cmp .eql (.bin .quo .i64 (.iv 2) (.lit (.ofNat 16384))) (.lit (.ofNat 16))))))) (.lit (.ofNat 4)) (.ite (.and (.not (.cmp .eql (.bin .quo .i64 (.iv 2) (.lit (.ofNat 16384))) (.lit (.ofNat 1)))) (.and (.not (.cmp .eql (.bin .quo .i64 (.iv 2) (.lit (.ofNat 16384))) (.lit (.ofNat 2)))) (.and (.not (.cmp .eql (.bin .quo .i64 (.iv 2) (.lit (.ofNat 16384))) (.lit (.ofNat 4)))) (.and (.not (.cmp .eql (.bin .quo .i64 (.iv 2) (.lit (.ofNat 16384))) (.lit (.ofNat 8)))) (.and (.not (.cmp .eql (.bin .quo .i64 (.iv 2) (.lit (.ofNat 16384))) (.lit (.ofNat 16)))) (.cmp .eql (.bin .quo .i64 (.iv 2) (.lit (.ofNat 16384))) (.lit (.ofNat 32)))))))) (.lit (.ofNat 5)) (.lit (.negSucc 0)))))))) (.lit (.ofNat 0))
def e16_K0 : Known := e16_K.assume e16_q0 true
def e16_K1 : Known := e16_K.assume e16_q0 false
def e16_q2 : X := .cmp .eql (.bin .rem .i64 (.iv 2) (.lit (.ofNat 16384))) (.lit (.ofNat 0))
def e16_K2 : Known := e16_K0.assume e16_q2 true
def e16_K3 : Known := e16_K0.assume e16_q2 false
def e16_q4 : X := .not (.cmp .neq (.ite (.cmp .lss (.lit (.ofNat 16384)) (.iv 2)) (.ite (.cmp .lss (.lit (.ofNat 32768)) (.iv 2)) (.ite (.cmp .lss (.lit (.ofNat 65536)) (.iv 2)) (.ite (.cmp .lss (.lit (.ofNat 131072)) (.iv 2)) (.ite (.cmp .lss (.lit (.ofNat 262144)) (.iv 2)) (.lit (.ofNat 524288)) (.lit (.ofNat 262144))) (.lit (.ofNat 131072))) (.lit (.ofNat 65536))) (.lit (.ofNat 32768))) (.lit (.ofNat 16384))) (.iv 2))
def e16_K4 : Known := e16_K2.assume e16_q4 true
def e16_q5 : X := .cmp .eql (.iv 2) (.lit (.ofNat 16384))
def e16_K5 : Known := e16_K2.assume e16_q5 true
def e16_K6 : Known := e16_K2.assume e16_q5 false
theorem e16_L7 : X.prove 300 1000 e16_K5 e16_q4 = true := by kernel_rfl
def e16_q8 : X := .cmp .eql (.iv 2) (.lit (.ofNat 32768))
def e16_K8 : Known := e16_K6.assume e16_q8 true
def e16_K9 : Known := e16_K6.assume e16_q8 false
theorem e16_L10 : X.prove 300 1000 e16_K8 e16_q4 = true := by kernel_rfl
def e16_q11 : X := .cmp .eql (.iv 2) (.lit (.ofNat 65536))
def e16_K11 : Known := e16_K9.assume e16_q11 true
def e16_K12 : Known := e16_K9.assume e16_q11 false
theorem e16_L13 : X.prove 300 1000 e16_K11 e16_q4 = true := by kernel_rfl
def e16_q14 : X := .cmp .eql (.iv 2) (.lit (.ofNat 131072))
def e16_K14 : Known := e16_K12.assume e16_q14 true
def e16_K15 : Known := e16_K12.assume e16_q14 false
theorem e16_L16 : X.prove 300 1000 e16_K14 e16_q4 = true := by kernel_rfl
def e16_q17 : X := .cmp .eql (.iv 2) (.lit (.ofNat 262144))
def e16_K17 : Known := e16_K15.assume e16_q17 true
def e16_K18 : Known := e16_K15.assume e16_q17 false
theorem e16_L19 : X.prove 300 1000 e16_K17 e16_q4 = true := by kernel_rfl
def e16_q20 : X := .cmp .eql (.iv 2) (.lit (.ofNat 524288))
def e16_K20 : Known := e16_K18.assume e16_q20 true
def e16_K21 : Known := e16_K18.assume e16_q20 false
theorem e16_L22 : X.prove 300 1000 e16_K20 e16_q4 = true := by kernel_rfl
def e16_q23 : X := .cmp .eql (.bin .quo .i64 (.iv 2) (.lit (.ofNat 16384))) (.lit (.ofNat 1))
def e16_K23 : Known := e16_K21.assume e16_q23 true
def e16_K24 : Known := e16_K21.assume e16_q23 false
def e16_q25 : X := .cmp .eql (.bin .rem .i64 (.iv 2) (.lit (.ofNat 16384))) (.lit (.ofNat 0))
def e16_K25 : Known := e16_K23.assume e16_q25 true
theorem e16_L26 : X.prove 300 1000 e16_K23 e16_q25 = true := by kernel_rfl
theorem e16_L27 : X.prove 300 1000 e16_K25 e16_q4 = true := by kernel_rfl
def e16_q28 : X := .cmp .eql (.bin .quo .i64 (.iv 2) (.lit (.ofNat 16384))) (.lit (.ofNat 2))
def e16_K28 : Known := e16_K24.assume e16_q28 true
def e16_K29 : Known := e16_K24.assume e16_q28 false
def e16_q30 : X := .cmp .eql (.bin .rem .i64 (.iv 2) (.lit (.ofNat 16384))) (.lit (.ofNat 0))
def e16_K30 : Known := e16_K28.assume e16_q30 true
theorem e16_L31 : X.prove 300 1000 e16_K28 e16_q30 = true := by kernel_rfl
theorem e16_L32 : X.prove 300 1000 e16_K30 e16_q4 = true := by kernel_rfl
def e16_q33 : X := .cmp .eql (.bin .quo .i64 (.iv 2) (.lit (.ofNat 16384))) (.lit (.ofNat 4))
def e16_K33 : Known := e16_K29.assume e16_q33 true
def e16_K34 : Known := e16_K29.assume e16_q33 false
def e16_q35 : X := .cmp .eql (.bin .rem .i64 (.iv 2) (.lit (.ofNat 16384))) (.lit (.ofNat 0))
def e16_K35 : Known := e16_K33.assume e16_q35 true
theorem e16_L36 : X.prove 300 1000 e16_K33 e16_q35 = true := by kernel_rfl
theorem e16_L37 : X.prove 300 1000 e16_K35 e16_q4 = true := by kernel_rfl
def e16_q38 : X := .cmp .eql (.bin .quo .i64 (.iv 2) (.lit (.ofNat 16384))) (.lit (.ofNat 8))
def e16_K38 : Known := e16_K34.assume e16_q38 true
def e16_K39 : Known := e16_K34.assume e16_q38 false
def e16_q40 : X := .cmp .eql (.bin .rem .i64 (.iv 2) (.lit (.ofNat 16384))) (.lit (.ofNat 0))
def e16_K40 : Known := e16_K38.assume e16_q40 true
theorem e16_L41 : X.prove 300 1000 e16_K38 e16_q40 = true := by kernel_rfl
theorem e16_L42 : X.prove 300 1000 e16_K40 e16_q4 = true := by kernel_rfl
def e16_q43 : X := .cmp .eql (.bin .quo .i64 (.iv 2) (.lit (.ofNat 16384))) (.lit (.ofNat 16))
def e16_K43 : Known := e16_K39.assume e16_q43 true
def e16_K44 : Known := e16_K39.assume e16_q43 false
def e16_q45 : X := .cmp .eql (.bin .rem .i64 (.iv 2) (.lit (.ofNat 16384))) (.lit (.ofNat 0))
def e16_K45 : Known := e16_K43.assume e16_q45 true
theorem e16_L46 : X.prove 300 1000 e16_K43 e16_q45 = true := by kernel_rfl
theorem e16_L47 : X.prove 300 1000 e16_K45 e16_q4 = true := by kernel_rfl
def e16_q48 : X := .cmp .eql (.bin .quo .i64 (.iv 2) (.lit (.ofNat 16384))) (.lit (.ofNat 32))
def e16_K48 : Known := e16_K44.assume e16_q48 true
def e16_K49 : Known := e16_K44.assume e16_q48 false
def e16_q50 : X := .cmp .eql (.bin .rem .i64 (.iv 2) (.lit (.ofNat 16384))) (.lit (.ofNat 0))
def e16_K50 : Known := e16_K48.assume e16_q50 true
theorem e16_L51 : X.prove 300 1000 e16_K48 e16_q50 = true := by kernel_rfl
theorem e16_L52 : X.prove 300 1000 e16_K50 e16_q4 = true := by kernel_rfl
theorem e16_L53 : X.prove 300 1000 e16_K49 e16_q4 = true := by kernel_rfl
def e16_q54 : X := .cmp .geq (.ite (.cmp .eql (.bin .quo .i64 (.iv 3) (.lit (.ofNat 8192))) (.lit (.ofNat 1))) (.lit (.ofNat 0)) (.ite (.and (.not (.cmp .eql (.bin .quo .i64 (.iv 3) (.lit (.ofNat 8192))) (.lit (.ofNat 1)))) (.cmp .eql (.bin .quo .i64 (.iv 3) (.lit (.ofNat 8192))) (.lit (.ofNat 2)))) (.lit (.ofNat 1)) (.ite (.and (.not (.cmp .eql (.bin .quo .i64 (.iv 3) (.lit (.ofNat 8192))) (.lit (.ofNat 1)))) (.and (.not (.cmp .eql (.bin .quo .i64 (.iv 3) (.lit (.ofNat 8192))) (.lit (.ofNat 2)))) (.cmp .eql (.bin .quo .i64 (.iv 3) (.lit (.ofNat 8192))) (.lit (.ofNat 4))))) (.lit (.ofNat 2)) (.ite (.and (.not (.cmp .eql (.bin .quo .i64 (.iv 3) (.lit (.ofNat 8192))) (.lit (.ofNat 1)))) (.and (.not (.cmp .eql (.bin .quo .i64 (.iv 3) (.lit (.ofNat 8192))) (.lit (.ofNat 2)))) (.and (.not (.cmp .eql (.bin .quo .i64 (.iv 3) (.lit (.ofNat 8192))) (.lit (.ofNat 4)))) (.cmp .eql (.bin .quo .i64 (.iv 3) (.lit (.ofNat 8192))) (.lit (.ofNat 8)))))) (.lit (.ofNat 3)) (.ite (.and (.not (.cmp .eql (.bin .quo .i64 (.iv 3) (.lit (.ofNat 8192))) (.lit (.ofNat 1)))) (.and (.not (.cmp .eql (.bin .quo .i64 (.iv 3) (.lit (.ofNat 8192))) (.lit (.ofNat 2)))) (.and (.not (.cmp .eql (.bin .quo .i64 (.iv 3) (.lit (.ofNat 8192))) (.lit (.ofNat 4)))) (.and (.not (.cmp .eql (.bin .quo .i64 (.iv 3) (.lit (.ofNat 8192))) (.lit (.ofNat 8)))) (.cmp .eql (.bin .quo .i64 (.iv 3) (.lit (.ofNat 8192))) (.lit (.ofNat 16))))))) (.lit (.ofNat 4)) (.ite (.and (.not (.cmp .eql (.bin .quo .i64 (.iv 3) (.lit (.ofNat 8192))) (.lit (.ofNat 1)))) (.and (.not (.cmp .eql (.bin .quo .i64 (.iv 3) (.lit (.ofNat 8192))) (.lit (.ofNat 2)))) (.and (.not (.cmp .eql (.bin .quo .i64 (.iv 3) (.lit (.ofNat 8192))) (.lit (.ofNat 4)))) (.and (.not (.cmp .eql (.bin .quo .i64 (.iv 3) (.lit (.ofNat 8192))) (.lit (.ofNat 8)))) (.and (.not (.cmp .eql (.bin .quo .i64 (.iv 3) (.lit (.ofNat 8192))) (.lit (.ofNat 16)))) (.cmp .eql (.bin .quo .i64 (.iv 3) (.lit (.ofNat 8192))) (.lit (.ofNat 32)))))))) (.lit (.ofNat 5)) (.lit (.negSucc 0)))))))) (.lit (.ofNat 0))
def e16_K54 : Known := e16_K4.assume e16_q54 true
def e16_K55 : Known := e16_K4.assume e16_q54 false
def e16_q56 : X := .cmp .eql (.bin .rem .i64 (.iv 3) (.lit (.ofNat 8192))) (.lit (.ofNat 0))
def e16_K56 : Known := e16_K54.assume e16_q56 true
def e16_K57 : Known := e16_K54.assume e16_q56 false
def e16_q58 : X := .not (.cmp .neq (.ite (.cmp .lss (.lit (.ofNat 8192)) (.iv 3)) (.ite (.cmp .lss (.lit (.ofNat 16384)) (.iv 3)) (.ite (.cmp .lss (.lit (.ofNat 32768)) (.iv 3)) (.ite (.cmp .lss (.lit (.ofNat 65536)) (.iv 3)) (.ite (.cmp .lss (.lit (.ofNat 131072)) (.iv 3)) (.lit (.ofNat 262144)) (.lit (.ofNat 131072))) (.lit (.ofNat 65536))) (.lit (.ofNat 32768))) (.lit (.ofNat 16384))) (.lit (.ofNat 8192))) (.iv 3))
def e16_K58 : Known := e16_K56.assume e16_q58 true
def e16_q59 : X := .cmp .eql (.iv 3) (.lit (.ofNat 8192))
def e16_K59 : Known := e16_K56.assume e16_q59 true
def e16_K60 : Known := e16_K56.assume e16_q59 false
theorem e16_L61 : X.prove 300 1000 e16_K59 e16_q58 = true := by kernel_rfl
def e16_q62 : X := .cmp .eql (.iv 3) (.lit (.ofNat 16384))
def e16_K62 : Known := e16_K60.assume e16_q62 true
def e16_K63 : Known := e16_K60.assume e16_q62 false
theorem e16_L64 : X.prove 300 1000 e16_K62 e16_q58 = true := by kernel_rfl
def e16_q65 : X := .cmp .eql (.iv 3) (.lit (.ofNat 32768))
def e16_K65 : Known := e16_K63.assume e16_q65 true
def e16_K66 : Known := e16_K63.assume e16_q65 false
theorem e16_L67 : X.prove 300 1000 e16_K65 e16_q58 = true := by kernel_rfl
def e16_q68 : X := .cmp .eql (.iv 3) (.lit (.ofNat 65536))
def e16_K68 : Known := e16_K66.assume e16_q68 true
def e16_K69 : Known := e16_K66.assume e16_q68 false
theorem e16_L70 : X.prove 300 1000 e16_K68 e16_q58 = true := by kernel_rfl
def e16_q71 : X := .cmp .eql (.iv 3) (.lit (.ofNat 131072))
def e16_K71 : Known := e16_K69.assume e16_q71 true
def e16_K72 : Known := e16_K69.assume e16_q71 false
theorem e16_L73 : X.prove 300 1000 e16_K71 e16_q58 = true := by kernel_rfl
def e16_q74 : X := .cmp .eql (.iv 3) (.lit (.ofNat 262144))
def e16_K74 : Known := e16_K72.assume e16_q74 true
def e16_K75 : Known := e16_K72.assume e16_q74 false
theorem e16_L76 : X.prove 300 1000 e16_K74 e16_q58 = true := by kernel_rfl
def e16_q77 : X := .cmp .eql (.bin .quo .i64 (.iv 3) (.lit (.ofNat 8192))) (.lit (.ofNat 1))
def e16_K77 : Known := e16_K75.assume e16_q77 true
def e16_K78 : Known := e16_K75.assume e16_q77 false
def e16_q79 : X := .cmp .eql (.bin .rem .i64 (.iv 3) (.lit (.ofNat 8192))) (.lit (.ofNat 0))
def e16_K79 : Known := e16_K77.assume e16_q79 true
theorem e16_L80 : X.prove 300 1000 e16_K77 e16_q79 = true := by kernel_rfl
theorem e16_L81 : X.prove 300 1000 e16_K79 e16_q58 = true := by kernel_rfl
def e16_q82 : X := .cmp .eql (.bin .quo .i64 (.iv 3) (.lit (.ofNat 8192))) (.lit (.ofNat 2))
def e16_K82 : Known := e16_K78.assume e16_q82 true
def e16_K83 : Known := e16_K78.assume e16_q82 false
def e16_q84 : X := .cmp .eql (.bin .rem .i64 (.iv 3) (.lit (.ofNat 8192))) (.lit (.ofNat 0))
def e16_K84 : Known := e16_K82.assume e16_q84 true
theorem e16_L85 : X.prove 300 1000 e16_K82 e16_q84 = true := by kernel_rfl
theorem e16_L86 : X.prove 300 1000 e16_K84 e16_q58 = true := by kernel_rfl
def e16_q87 : X := .cmp .eql (.bin .quo .i64 (.iv 3) (.lit (.ofNat 8192))) (.lit (.ofNat 4))
def e16_K87 : Known := e16_K83.assume e16_q87 true
def e16_K88 : Known := e16_K83.assume e16_q87 false
def e16_q89 : X := .cmp .eql (.bin .rem .i64 (.iv 3) (.lit (.ofNat 8192))) (.lit (.ofNat 0))
def e16_K89 : Known := e16_K87.assume e16_q89 true
theorem e16_L90 : X.prove 300 1000 e16_K87 e16_q89 = true := by kernel_rfl
theorem e16_L91 : X.prove 300 1000 e16_K89 e16_q58 = true := by kernel_rfl
def e16_q92 : X := .cmp .eql (.bin .quo .i64 (.iv 3) (.lit (.ofNat 8192))) (.lit (.ofNat 8))
def e16_K92 : Known := e16_K88.assume e16_q92 true
def e16_K93 : Known := e16_K88.assume e16_q92 false
def e16_q94 : X := .cmp .eql (.bin .rem .i64 (.iv 3) (.lit (.ofNat 8192))) (.lit (.ofNat 0))
def e16_K94 : Known := e16_K92.assume e16_q94 true
theorem e16_L95 : X.prove 300 1000 e16_K92 e16_q94 = true := by kernel_rfl
theorem e16_L96 : X.prove 300 1000 e16_K94 e16_q58 = true := by kernel_rfl
def e16_q97 : X := .cmp .eql (.bin .quo .i64 (.iv 3) (.lit (.ofNat 8192))) (.lit (.ofNat 16))
def e16_K97 : Known := e16_K93.assume e16_q97 true
def e16_K98 : Known := e16_K93.assume e16_q97 false
def e16_q99 : X := .cmp .eql (.bin .rem .i64 (.iv 3) (.lit (.ofNat 8192))) (.lit (.ofNat 0))
def e16_K99 : Known := e16_K97.assume e16_q99 true
theorem e16_L100 : X.prove 300 1000 e16_K97 e16_q99 = true := by kernel_rfl
theorem e16_L101 : X.prove 300 1000 e16_K99 e16_q58 = true := by kernel_rfl
def e16_q102 : X := .cmp .eql (.bin .quo .i64 (.iv 3) (.lit (.ofNat 8192))) (.lit (.ofNat 32))
def e16_K102 : Known := e16_K98.assume e16_q102 true
def e16_K103 : Known := e16_K98.assume e16_q102 false
def e16_q104 : X := .cmp .eql (.bin .rem .i64 (.iv 3) (.lit (.ofNat 8192))) (.lit (.ofNat 0))
def e16_K104 : Known := e16_K102.assume e16_q104 true
theorem e16_L105 : X.prove 300 1000 e16_K102 e16_q104 = true := by kernel_rfl
theorem e16_L106 : X.prove 300 1000 e16_K104 e16_q58 = true := by kernel_rfl
theorem e16_L107 : X.prove 300 1000 e16_K103 e16_q58 = true := by kernel_rfl
def e16_q108 : X := .bv 8
def e16_K108 : Known := e16_K58.assume e16_q108 true
def e16_K109 : Known := e16_K58.assume e16_q108 false
def e16_q110 : X := .cmp .eql (.iv 3) (.lit (.ofNat 8192))
def e16_K110 : Known := e16_K108.assume e16_q110 true
def e16_K111 : Known := e16_K108.assume e16_q110 false
def e16_q112 : X := .cmp .lss (.iv 1) (.lit (.ofNat 0))
def e16_K112 : Known := e16_K110.assume e16_q112 true
def e16_K113 : Known := e16_K110.assume e16_q112 false
def e16_q114 : X := .cmp .lss (.iv 0) (.lit (.ofNat 0))
def e16_K114 : Known := e16_K112.assume e16_q114 true
def e16_K115 : Known := e16_K112.assume e16_q114 false
theorem e16_L116 : X.prove 300 1000 e16_K114 e16_g = true := by kernel_rfl
def e16_q117 : X := .cmp .gtr (.iv 0) (.lit (.ofNat 7))
def e16_K117 : Known := e16_K115.assume e16_q117 true
def e16_K118 : Known := e16_K115.assume e16_q117 false
theorem e16_L119 : X.prove 300 1000 e16_K117 e16_g = true := by kernel_rfl
def e16_q120 : X := .cmp .eql (.iv 0) (.lit (.ofNat 0))
def e16_K120 : Known := e16_K118.assume e16_q120 true
def e16_K121 : Known := e16_K118.assume e16_q120 false
theorem e16_L122 : X.prove 300 1000 e16_K120 e16_g = true := by kernel_rfl
def e16_q123 : X := .cmp .eql (.iv 0) (.lit (.ofNat 1))
def e16_K123 : Known := e16_K121.assume e16_q123 true
def e16_K124 : Known := e16_K121.assume e16_q123 false
theorem e16_L125 : X.prove 300 1000 e16_K123 e16_g = true := by kernel_rfl
def e16_q126 : X := .cmp .eql (.iv 0) (.lit (.ofNat 2))
def e16_K126 : Known := e16_K124.assume e16_q126 true
def e16_K127 : Known := e16_K124.assume e16_q126 false
theorem e16_L128 : X.prove 300 1000 e16_K126 e16_g = true := by kernel_rfl
def e16_q129 : X := .cmp .eql (.iv 0) (.lit (.ofNat 3))
def e16_K129 : Known := e16_K127.assume e16_q129 true
def e16_K130 : Known := e16_K127.assume e16_q129 false
theorem e16_L131 : X.prove 300 1000 e16_K129 e16_g = true := by kernel_rfl
def e16_q132 : X := .cmp .eql (.iv 0) (.lit (.ofNat 4))
def e16_K132 : Known := e16_K130.assume e16_q132 true
def e16_K133 : Known := e16_K130.assume e16_q132 false
theorem e16_L134 : X.prove 300 1000 e16_K132 e16_g = true := by kernel_rfl
def e16_q135 : X := .cmp .eql (.iv 0) (.lit (.ofNat 5))
def e16_K135 : Known := e16_K133.assume e16_q135 true
def e16_K136 : Known := e16_K133.assume e16_q135 false
theorem e16_L137 : X.prove 300 1000 e16_K135 e16_g = true := by kernel_rfl
def e16_q138 : X := .cmp .eql (.iv 0) (.lit (.ofNat 6))
def e16_K138 : Known := e16_K136.assume e16_q138 true
def e16_K139 : Known := e16_K136.assume e16_q138 false
theorem e16_L140 : X.prove 300 1000 e16_K138 e16_g = true := by kernel_rfl
theorem e16_L141 : X.prove 300 1000 e16_K139 e16_g = true := by kernel_rfl
def e16_q142 : X := .cmp .gtr (.iv 1) (.lit (.ofNat 15))
def e16_K142 : Known := e16_K113.assume e16_q142 true
def e16_K143 : Known := e16_K113.assume e16_q142 false
def e16_q144 : X := .cmp .lss (.iv 0) (.lit (.ofNat 0))
def e16_K144 : Known := e16_K142.assume e16_q144 true
def e16_K145 : Known := e16_K142.assume e16_q144 false
theorem e16_L146 : X.prove 300 1000 e16_K144 e16_g = true := by kernel_rfl
def e16_q147 : X := .cmp .gtr (.iv 0) (.lit (.ofNat 7))
def e16_K147 : Known := e16_K145.assume e16_q147 true
def e16_K148 : Known := e16_K145.assume e16_q147 false
theorem e16_L149 : X.prove 300 1000 e16_K147 e16_g = true := by kernel_rfl
def e16_q150 : X := .cmp .eql (.iv 0) (.lit (.ofNat 0))
def e16_K150 : Known := e16_K148.assume e16_q150 true
def e16_K151 : Known := e16_K148.assume e16_q150 false
theorem e16_L152 : X.prove 300 1000 e16_K150 e16_g = true := by kernel_rfl
def e16_q153 : X := .cmp .eql (.iv 0) (.lit (.ofNat 1))
def e16_K153 : Known := e16_K151.assume e16_q153 true
def e16_K154 : Known := e16_K151.assume e16_q153 false
theorem e16_L155 : X.prove 300 1000 e16_K153 e16_g = true := by kernel_rfl
def e16_q156 : X := .cmp .eql (.iv 0) (.lit (.ofNat 2))
def e16_K156 : Known := e16_K154.assume e16_q156 true
def e16_K157 : Known := e16_K154.assume e16_q156 false
theorem e16_L158 : X.prove 300 1000 e16_K156 e16_g = true := by kernel_rfl
def e16_q159 : X := .cmp .eql (.iv 0) (.lit (.ofNat 3))
def e16_K159 : Known := e16_K157.assume e16_q159 true
def e16_K160 : Known := e16_K157.assume e16_q159 false
theorem e16_L161 : X.prove 300 1000 e16_K159 e16_g = true := by kernel_rfl
def e16_q162 : X := .cmp .eql (.iv 0) (.lit (.ofNat 4))
def e16_K162 : Known := e16_K160.assume e16_q162 true
def e16_K163 : Known := e16_K160.assume e16_q162 false
theorem e16_L164 : X.prove 300 1000 e16_K162 e16_g = true := by kernel_rfl
def e16_q165 : X := .cmp .eql (.iv 0) (.lit (.ofNat 5))
def e16_K165 : Known := e16_K163.assume e16_q165 true
def e16_K166 : Known := e16_K163.assume e16_q165 false
theorem e16_L167 : X.prove 300 1000 e16_K165 e16_g = true := by kernel_rfl
def e16_q168 : X := .cmp .eql (.iv 0) (.lit (.ofNat 6))
def e16_K168 : Known := e16_K166.assume e16_q168 true
def e16_K169 : Known := e16_K166.assume e16_q168 false
theorem e16_L170 : X.prove 300 1000 e16_K168 e16_g = true := by kernel_rfl
theorem e16_L171 : X.prove 300 1000 e16_K169 e16_g = true := by kernel_rfl
def e16_q172 : X := .bv 7
def e16_K172 : Known := e16_K143.assume e16_q172 true
def e16_K173 : Known := e16_K143.assume e16_q172 false
def e16_q174 : X := .cmp .lss (.iv 0) (.lit (.ofNat 0))
def e16_K174 : Known := e16_K172.assume e16_q174 true
def e16_K175 : Known := e16_K172.assume e16_q174 false
theorem e16_L176 : X.prove 300 1000 e16_K174 e16_g = true := by kernel_rfl
def e16_q177 : X := .cmp .gtr (.iv 0) (.lit (.ofNat 7))
def e16_K177 : Known := e16_K175.assume e16_q177 true
def e16_K178 : Known := e16_K175.assume e16_q177 false
theorem e16_L179 : X.prove 300 1000 e16_K177 e16_g = true := by kernel_rfl
def e16_q180 : X := .cmp .eql (.iv 0) (.lit (.ofNat 0))
def e16_K180 : Known := e16_K178.assume e16_q180 true
def e16_K181 : Known := e16_K178.assume e16_q180 false
theorem e16_L182 : X.prove 300 1000 e16_K180 e16_g = true := by kernel_rfl
def e16_q183 : X := .cmp .eql (.iv 0) (.lit (.ofNat 1))
def e16_K183 : Known := e16_K181.assume e16_q183 true
def e16_K184 : Known := e16_K181.assume e16_q183 false
theorem e16_L185 : X.prove 300 1000 e16_K183 e16_g = true := by kernel_rfl
def e16_q186 : X := .cmp .eql (.iv 0) (.lit (.ofNat 2))
def e16_K186 : Known := e16_K184.assume e16_q186 true
def e16_K187 : Known := e16_K184.assume e16_q186 false
theorem e16_L188 : X.prove 300 1000 e16_K186 e16_g = true := by kernel_rfl
def e16_q189 : X := .cmp .eql (.iv 0) (.lit (.ofNat 3))
def e16_K189 : Known := e16_K187.assume e16_q189 true
def e16_K190 : Known := e16_K187.assume e16_q189 false
theorem e16_L191 : X.prove 300 1000 e16_K189 e16_g = true := by kernel_rfl
def e16_q192 : X := .cmp .eql (.iv 0) (.lit (.ofNat 4))
def e16_K192 : Known := e16_K190.assume e16_q192 true
def e16_K193 : Known := e16_K190.assume e16_q192 false
theorem e16_L194 : X.prove 300 1000 e16_K192 e16_g = true := by kernel_rfl
def e16_q195 : X := .cmp .eql (.iv 0) (.lit (.ofNat 5))
def e16_K195 : Known := e16_K193.assume e16_q195 true
def e16_K196 : Known := e16_K193.assume e16_q195 false
theorem e16_L197 : X.prove 300 1000 e16_K195 e16_g = true := by kernel_rfl
def e16_q198 : X := .cmp .eql (.iv 0) (.lit (.ofNat 6))
def e16_K198 : Known := e16_K196.assume e16_q198 true
def e16_K199 : Known := e16_K196.assume e16_q198 false
theorem e16_L200 : X.prove 300 1000 e16_K198 e16_g = true := by kernel_rfl
theorem e16_L201 : X.prove 300 1000 e16_K199 e16_g = true := by kernel_rfl
def e16_q202 : X := .cmp .eql (.iv 1) (.lit (.ofNat 0))
def e16_K202 : Known := e16_K173.assume e16_q202 true
def e16_K203 : Known := e16_K173.assume e16_q202 false
def e16_q204 : X := .cmp .lss (.iv 0) (.lit (.ofNat 0))
def e16_K204 : Known := e16_K202.assume e16_q204 true
def e16_K205 : Known := e16_K202.assume e16_q204 false
theorem e16_L206 : X.prove 300 1000 e16_K204 e16_g = true := by kernel_rfl
def e16_q207 : X := .cmp .gtr (.iv 0) (.lit (.ofNat 7))
def e16_K207 : Known := e16_K205.assume e16_q207 true
def e16_K208 : Known := e16_K205.assume e16_q207 false
theorem e16_L209 : X.prove 300 1000 e16_K207 e16_g = true := by kernel_rfl
def e16_q210 : X := .cmp .eql (.iv 0) (.lit (.ofNat 0))
def e16_K210 : Known := e16_K208.assume e16_q210 true
def e16_K211 : Known := e16_K208.assume e16_q210 false
theorem e16_L212 : X.prove 300 1000 e16_K210 e16_g = true := by kernel_rfl
def e16_q213 : X := .cmp .eql (.iv 0) (.lit (.ofNat 1))
def e16_K213 : Known := e16_K211.assume e16_q213 true
def e16_K214 : Known := e16_K211.assume e16_q213 false
theorem e16_L215 : X.prove 300 1000 e16_K213 e16_g = true := by kernel_rfl
def e16_q216 : X := .cmp .eql (.iv 0) (.lit (.ofNat 2))
def e16_K216 : Known := e16_K214.assume e16_q216 true
def e16_K217 : Known := e16_K214.assume e16_q216 false
theorem e16_L218 : X.prove 300 1000 e16_K216 e16_g = true := by kernel_rfl
def e16_q219 : X := .cmp .eql (.iv 0) (.lit (.ofNat 3))
def e16_K219 : Known := e16_K217.assume e16_q219 true
def e16_K220 : Known := e16_K217.assume e16_q219 false
theorem e16_L221 : X.prove 300 1000 e16_K219 e16_g = true := by kernel_rfl
def e16_q222 : X := .cmp .eql (.iv 0) (.lit (.ofNat 4))
def e16_K222 : Known := e16_K220.assume e16_q222 true
def e16_K223 : Known := e16_K220.assume e16_q222 false
theorem e16_L224 : X.prove 300 1000 e16_K222 e16_g = true := by kernel_rfl
def e16_q225 : X := .cmp .eql (.iv 0) (.lit (.ofNat 5))
def e16_K225 : Known := e16_K223.assume e16_q225 true
def e16_K226 : Known := e16_K223.assume e16_q225 false
theorem e16_L227 : X.prove 300 1000 e16_K225 e16_g = true := by kernel_rfl
def e16_q228 : X := .cmp .eql (.iv 0) (.lit (.ofNat 6))
def e16_K228 : Known := e16_K226.assume e16_q228 true
def e16_K229 : Known := e16_K226.assume e16_q228 false
theorem e16_L230 : X.prove 300 1000 e16_K228 e16_g = true := by kernel_rfl
theorem e16_L231 : X.prove 300 1000 e16_K229 e16_g = true := by kernel_rfl
def e16_q232 : X := .cmp .lss (.iv 0) (.lit (.ofNat 0))
def e16_K232 : Known := e16_K203.assume e16_q232 true
def e16_K233 : Known := e16_K203.assume e16_q232 false
theorem e16_L234 : X.prove 300 1000 e16_K232 e16_g = true := by kernel_rfl
def e16_q235 : X := .cmp .gtr (.iv 0) (.lit (.ofNat 7))
def e16_K235 : Known := e16_K233.assume e16_q235 true
def e16_K236 : Known := e16_K233.assume e16_q235 false
theorem e16_L237 : X.prove 300 1000 e16_K235 e16_g = true := by kernel_rfl
def e16_q238 : X := .cmp .eql (.iv 0) (.lit (.ofNat 0))
def e16_K238 : Known := e16_K236.assume e16_q238 true
def e16_K239 : Known := e16_K236.assume e16_q238 false
theorem e16_L240 : X.prove 300 1000 e16_K238 e16_g = true := by kernel_rfl
def e16_q241 : X := .cmp .eql (.iv 0) (.lit (.ofNat 1))
def e16_K241 : Known := e16_K239.assume e16_q241 true
def e16_K242 : Known := e16_K239.assume e16_q241 false
theorem e16_L243 : X.prove 300 1000 e16_K241 e16_g = true := by kernel_rfl
def e16_q244 : X := .cmp .eql (.iv 0) (.lit (.ofNat 2))
def e16_K244 : Known := e16_K242.assume e16_q244 true
def e16_K245 : Known := e16_K242.assume e16_q244 false
theorem e16_L246 : X.prove 300 1000 e16_K244 e16_g = true := by kernel_rfl
def e16_q247 : X := .cmp .eql (.iv 0) (.lit (.ofNat 3))
def e16_K247 : Known := e16_K245.assume e16_q247 true
def e16_K248 : Known := e16_K245.assume e16_q247 false
theorem e16_L249 : X.prove 300 1000 e16_K247 e16_g = true := by kernel_rfl
def e16_q250 : X := .cmp .eql (.iv 0) (.lit (.ofNat 4))
def e16_K250 : Known := e16_K248.assume e16_q250 true
def e16_K251 : Known := e16_K248.assume e16_q250 false
theorem e16_L252 : X.prove 300 1000 e16_K250 e16_g = true := by kernel_rfl
def e16_q253 : X := .cmp .eql (.iv 0) (.lit (.ofNat 5))
def e16_K253 : Known := e16_K251.assume e16_q253 true
def e16_K254 : Known := e16_K251.assume e16_q253 false
theorem e16_L255 : X.prove 300 1000 e16_K253 e16_g = true := by kernel_rfl
def e16_q256 : X := .cmp .eql (.iv 0) (.lit (.ofNat 6))
def e16_K256 : Known := e16_K254.assume e16_q256 true
def e16_K257 : Known := e16_K254.assume e16_q256 false
theorem e16_L258 : X.prove 300 1000 e16_K256 e16_g = true := by kernel_rfl
theorem e16_L259 : X.prove 300 1000 e16_K257 e16_g = true := by kernel_rfl
def e16_q260 : X := .cmp .lss (.iv 0) (.lit (.ofNat 0))
def e16_K260 : Known := e16_K111.assume e16_q260 true
def e16_K261 : Known := e16_K111.assume e16_q260 false
theorem e16_L262 : X.prove 300 1000 e16_K260 e16_g = true := by kernel_rfl
def e16_q263 : X := .cmp .gtr (.iv 0) (.lit (.ofNat 7))
def e16_K263 : Known := e16_K261.assume e16_q263 true
def e16_K264 : Known := e16_K261.assume e16_q263 false
theorem e16_L265 : X.prove 300 1000 e16_K263 e16_g = true := by kernel_rfl
def e16_q266 : X := .cmp .eql (.iv 0) (.lit (.ofNat 0))
def e16_K266 : Known := e16_K264.assume e16_q266 true
def e16_K267 : Known := e16_K264.assume e16_q266 false
theorem e16_L268 : X.prove 300 1000 e16_K266 e16_g = true := by kernel_rfl
def e16_q269 : X := .cmp .eql (.iv 0) (.lit (.ofNat 1))
def e16_K269 : Known := e16_K267.assume e16_q269 true
def e16_K270 : Known := e16_K267.assume e16_q269 false
theorem e16_L271 : X.prove 300 1000 e16_K269 e16_g = true := by kernel_rfl
def e16_q272 : X := .cmp .eql (.iv 0) (.lit (.ofNat 2))
def e16_K272 : Known := e16_K270.assume e16_q272 true
def e16_K273 : Known := e16_K270.assume e16_q272 false
theorem e16_L274 : X.prove 300 1000 e16_K272 e16_g = true := by kernel_rfl
def e16_q275 : X := .cmp .eql (.iv 0) (.lit (.ofNat 3))
def e16_K275 : Known := e16_K273.assume e16_q275 true
def e16_K276 : Known := e16_K273.assume e16_q275 false
theorem e16_L277 : X.prove 300 1000 e16_K275 e16_g = true := by kernel_rfl
def e16_q278 : X := .cmp .eql (.iv 0) (.lit (.ofNat 4))
def e16_K278 : Known := e16_K276.assume e16_q278 true
def e16_K279 : Known := e16_K276.assume e16_q278 false
theorem e16_L280 : X.prove 300 1000 e16_K278 e16_g = true := by kernel_rfl
def e16_q281 : X := .cmp .eql (.iv 0) (.lit (.ofNat 5))
def e16_K281 : Known := e16_K279.assume e16_q281 true
def e16_K282 : Known := e16_K279.assume e16_q281 false
theorem e16_L283 : X.prove 300 1000 e16_K281 e16_g = true := by kernel_rfl
def e16_q284 : X := .cmp .eql (.iv 0) (.lit (.ofNat 6))
def e16_K284 : Known := e16_K282.assume e16_q284 true
def e16_K285 : Known := e16_K282.assume e16_q284 false
theorem e16_L286 : X.prove 300 1000 e16_K284 e16_g = true := by kernel_rfl
theorem e16_L287 : X.prove 300 1000 e16_K285 e16_g = true := by kernel_rfl
def e16_q288 : X := .cmp .lss (.iv 1) (.lit (.ofNat 0))
def e16_K288 : Known := e16_K109.assume e16_q288 true
def e16_K289 : Known := e16_K109.assume e16_q288 false
def e16_q290 : X := .cmp .lss (.iv 0) (.lit (.ofNat 0))
def e16_K290 : Known := e16_K288.assume e16_q290 true
def e16_K291 : Known := e16_K288.assume e16_q290 false
theorem e16_L292 : X.prove 300 1000 e16_K290 e16_g = true := by kernel_rfl
def e16_q293 : X := .cmp .gtr (.iv 0) (.lit (.ofNat 7))
def e16_K293 : Known := e16_K291.assume e16_q293 true
def e16_K294 : Known := e16_K291.assume e16_q293 false
theorem e16_L295 : X.prove 300 1000 e16_K293 e16_g = true := by kernel_rfl
def e16_q296 : X := .cmp .eql (.iv 0) (.lit (.ofNat 0))
def e16_K296 : Known := e16_K294.assume e16_q296 true
def e16_K297 : Known := e16_K294.assume e16_q296 false
theorem e16_L298 : X.prove 300 1000 e16_K296 e16_g = true := by kernel_rfl
def e16_q299 : X := .cmp .eql (.iv 0) (.lit (.ofNat 1))
def e16_K299 : Known := e16_K297.assume e16_q299 true
def e16_K300 : Known := e16_K297.assume e16_q299 false
theorem e16_L301 : X.prove 300 1000 e16_K299 e16_g = true := by kernel_rfl
def e16_q302 : X := .cmp .eql (.iv 0) (.lit (.ofNat 2))
def e16_K302 : Known := e16_K300.assume e16_q302 true
def e16_K303 : Known := e16_K300.assume e16_q302 false
theorem e16_L304 : X.prove 300 1000 e16_K302 e16_g = true := by kernel_rfl
def e16_q305 : X := .cmp .eql (.iv 0) (.lit (.ofNat 3))
def e16_K305 : Known := e16_K303.assume e16_q305 true
def e16_K306 : Known := e16_K303.assume e16_q305 false
theorem e16_L307 : X.prove 300 1000 e16_K305 e16_g = true := by kernel_rfl
def e16_q308 : X := .cmp .eql (.iv 0) (.lit (.ofNat 4))
def e16_K308 : Known := e16_K306.assume e16_q308 true
def e16_K309 : Known := e16_K306.assume e16_q308 false
theorem e16_L310 : X.prove 300 1000 e16_K308 e16_g = true := by kernel_rfl
def e16_q311 : X := .cmp .eql (.iv 0) (.lit (.ofNat 5))
def e16_K311 : Known := e16_K309.assume e16_q311 true
def e16_K312 : Known := e16_K309.assume e16_q311 false
theorem e16_L313 : X.prove 300 1000 e16_K311 e16_g = true := by kernel_rfl
def e16_q314 : X := .cmp .eql (.iv 0) (.lit (.ofNat 6))
def e16_K314 : Known := e16_K312.assume e16_q314 true
def e16_K315 : Known := e16_K312.assume e16_q314 false
theorem e16_L316 : X.prove 300 1000 e16_K314 e16_g = true := by kernel_rfl
theorem e16_L317 : X.prove 300 1000 e16_K315 e16_g = true := by kernel_rfl
def e16_q318 : X := .cmp .gtr (.iv 1) (.lit (.ofNat 15))
def e16_K318 : Known := e16_K289.assume e16_q318 true
def e16_K319 : Known := e16_K289.assume e16_q318 false
def e16_q320 : X := .cmp .lss (.iv 0) (.lit (.ofNat 0))
def e16_K320 : Known := e16_K318.assume e16_q320 true
def e16_K321 : Known := e16_K318.assume e16_q320 false
theorem e16_L322 : X.prove 300 1000 e16_K320 e16_g = true := by kernel_rfl
def e16_q323 : X := .cmp .gtr (.iv 0) (.lit (.ofNat 7))
def e16_K323 : Known := e16_K321.assume e16_q323 true
def e16_K324 : Known := e16_K321.assume e16_q323 false
theorem e16_L325 : X.prove 300 1000 e16_K323 e16_g = true := by kernel_rfl
def e16_q326 : X := .cmp .eql (.iv 0) (.lit (.ofNat 0))
def e16_K326 : Known := e16_K324.assume e16_q326 true
def e16_K327 : Known := e16_K324.assume e16_q326 false
theorem e16_L328 : X.prove 300 1000 e16_K326 e16_g = true := by kernel_rfl
def e16_q329 : X := .cmp .eql (.iv 0) (.lit (.ofNat 1))
def e16_K329 : Known := e16_K327.assume e16_q329 true
def e16_K330 : Known := e16_K327.assume e16_q329 false
theorem e16_L331 : X.prove 300 1000 e16_K329 e16_g = true := by kernel_rfl
def e16_q332 : X := .cmp .eql (.iv 0) (.lit (.ofNat 2))
def e16_K332 : Known := e16_K330.assume e16_q332 true
def e16_K333 : Known := e16_K330.assume e16_q332 false
theorem e16_L334 : X.prove 300 1000 e16_K332 e16_g = true := by kernel_rfl
def e16_q335 : X := .cmp .eql (.iv 0) (.lit (.ofNat 3))
def e16_K335 : Known := e16_K333.assume e16_q335 true
def e16_K336 : Known := e16_K333.assume e16_q335 false
theorem e16_L337 : X.prove 300 1000 e16_K335 e16_g = true := by kernel_rfl
def e16_q338 : X := .cmp .eql (.iv 0) (.lit (.ofNat 4))
def e16_K338 : Known := e16_K336.assume e16_q338 true
def e16_K339 : Known := e16_K336.assume e16_q338 false
theorem e16_L340 : X.prove 300 1000 e16_K338 e16_g = true := by kernel_rfl
def e16_q341 : X := .cmp .eql (.iv 0) (.lit (.ofNat 5))
def e16_K341 : Known := e16_K339.assume e16_q341 true
def e16_K342 : Known := e16_K339.assume e16_q341 false
theorem e16_L343 : X.prove 300 1000 e16_K341 e16_g = true := by kernel_rfl
def e16_q344 : X := .cmp .eql (.iv 0) (.lit (.ofNat 6))
def e16_K344 : Known := e16_K342.assume e16_q344 true
def e16_K345 : Known := e16_K342.assume e16_q344 false
theorem e16_L346 : X.prove 300 1000 e16_K344 e16_g = true := by kernel_rfl
theorem e16_L347 : X.prove 300 1000 e16_K345 e16_g = true := by kernel_rfl
def e16_q348 : X := .bv 7
def e16_K348 : Known := e16_K319.assume e16_q348 true
def e16_K349 : Known := e16_K319.assume e16_q348 false
def e16_q350 : X := .cmp .lss (.iv 0) (.lit (.ofNat 0))
def e16_K350 : Known := e16_K348.assume e16_q350 true
def e16_K351 : Known := e16_K348.assume e16_q350 false
theorem e16_L352 : X.prove 300 1000 e16_K350 e16_g = true := by kernel_rfl
def e16_q353 : X := .cmp .gtr (.iv 0) (.lit (.ofNat 7))
def e16_K353 : Known := e16_K351.assume e16_q353 true
def e16_K354 : Known := e16_K351.assume e16_q353 false
theorem e16_L355 : X.prove 300 1000 e16_K353 e16_g = true := by kernel_rfl
def e16_q356 : X := .cmp .eql (.iv 0) (.lit (.ofNat 0))
def e16_K356 : Known := e16_K354.assume e16_q356 true
def e16_K357 : Known := e16_K354.assume e16_q356 false
theorem e16_L358 : X.prove 300 1000 e16_K356 e16_g = true := by kernel_rfl
def e16_q359 : X := .cmp .eql (.iv 0) (.lit (.ofNat 1))
def e16_K359 : Known := e16_K357.assume e16_q359 true
def e16_K360 : Known := e16_K357.assume e16_q359 false
theorem e16_L361 : X.prove 300 1000 e16_K359 e16_g = true := by kernel_rfl
def e16_q362 : X := .cmp .eql (.iv 0) (.lit (.ofNat 2))
def e16_K362 : Known := e16_K360.assume e16_q362 true
def e16_K363 : Known := e16_K360.assume e16_q362 false
theorem e16_L364 : X.prove 300 1000 e16_K362 e16_g = true := by kernel_rfl
def e16_q365 : X := .cmp .eql (.iv 0) (.lit (.ofNat 3))
def e16_K365 : Known := e16_K363.assume e16_q365 true
def e16_K366 : Known := e16_K363.assume e16_q365 false
theorem e16_L367 : X.prove 300 1000 e16_K365 e16_g = true := by kernel_rfl
def e16_q368 : X := .cmp .eql (.iv 0) (.lit (.ofNat 4))
def e16_K368 : Known := e16_K366.assume e16_q368 true
def e16_K369 : Known := e16_K366.assume e16_q368 false
theorem e16_L370 : X.prove 300 1000 e16_K368 e16_g = true := by kernel_rfl
def e16_q371 : X := .cmp .eql (.iv 0) (.lit (.ofNat 5))
def e16_K371 : Known := e16_K369.assume e16_q371 true
def e16_K372 : Known := e16_K369.assume e16_q371 false
theorem e16_L373 : X.prove 300 1000 e16_K371 e16_g = true := by kernel_rfl
def e16_q374 : X := .cmp .eql (.iv 0) (.lit (.ofNat 6))
def e16_K374 : Known := e16_K372.assume e16_q374 true
def e16_K375 : Known := e16_K372.assume e16_q374 false
theorem e16_L376 : X.prove 300 1000 e16_K374 e16_g = true := by kernel_rfl
theorem e16_L377 : X.prove 300 1000 e16_K375 e16_g = true := by kernel_rfl
def e16_q378 : X := .cmp .eql (.iv 1) (.lit (.ofNat 0))
def e16_K378 : Known := e16_K349.assume e16_q378 true
def e16_K379 : Known := e16_K349.assume e16_q378 false
def e16_q380 : X := .cmp .lss (.iv 0) (.lit (.ofNat 0))
def e16_K380 : Known := e16_K378.assume e16_q380 true
def e16_K381 : Known := e16_K378.assume e16_q380 false
theorem e16_L382 : X.prove 300 1000 e16_K380 e16_g = true := by kernel_rfl
def e16_q383 : X := .cmp .gtr (.iv 0) (.lit (.ofNat 7))
def e16_K383 : Known := e16_K381.assume e16_q383 true
def e16_K384 : Known := e16_K381.assume e16_q383 false
theorem e16_L385 : X.prove 300 1000 e16_K383 e16_g = true := by kernel_rfl
def e16_q386 : X := .cmp .eql (.iv 0) (.lit (.ofNat 0))
def e16_K386 : Known := e16_K384.assume e16_q386 true
def e16_K387 : Known := e16_K384.assume e16_q386 false
theorem e16_L388 : X.prove 300 1000 e16_K386 e16_g = true := by kernel_rfl
def e16_q389 : X := .cmp .eql (.iv 0) (.lit (.ofNat 1))
def e16_K389 : Known := e16_K387.assume e16_q389 true
def e16_K390 : Known := e16_K387.assume e16_q389 false
theorem e16_L391 : X.prove 300 1000 e16_K389 e16_g = true := by kernel_rfl
def e16_q392 : X := .cmp .eql (.iv 0) (.lit (.ofNat 2))
def e16_K392 : Known := e16_K390.assume e16_q392 true
def e16_K393 : Known := e16_K390.assume e16_q392 false
theorem e16_L394 : X.prove 300 1000 e16_K392 e16_g = true := by kernel_rfl
def e16_q395 : X := .cmp .eql (.iv 0) (.lit (.ofNat 3))
def e16_K395 : Known := e16_K393.assume e16_q395 true
def e16_K396 : Known := e16_K393.assume e16_q395 false
theorem e16_L397 : X.prove 300 1000 e16_K395 e16_g = true := by kernel_rfl
def e16_q398 : X := .cmp .eql (.iv 0) (.lit (.ofNat 4))
def e16_K398 : Known := e16_K396.assume e16_q398 true
def e16_K399 : Known := e16_K396.assume e16_q398 false
theorem e16_L400 : X.prove 300 1000 e16_K398 e16_g = true := by kernel_rfl
def e16_q401 : X := .cmp .eql (.iv 0) (.lit (.ofNat 5))
def e16_K401 : Known := e16_K399.assume e16_q401 true
def e16_K402 : Known := e16_K399.assume e16_q401 false
theorem e16_L403 : X.prove 300 1000 e16_K401 e16_g = true := by kernel_rfl
def e16_q404 : X := .cmp .eql (.iv 0) (.lit (.ofNat 6))
def e16_K404 : Known := e16_K402.assume e16_q404 true
def e16_K405 : Known := e16_K402.assume e16_q404 false
theorem e16_L406 : X.prove 300 1000 e16_K404 e16_g = true := by kernel_rfl
theorem e16_L407 : X.prove 300 1000 e16_K405 e16_g = true := by kernel_rfl
def e16_q408 : X := .cmp .lss (.iv 0) (.lit (.ofNat 0))
def e16_K408 : Known := e16_K379.assume e16_q408 true
def e16_K409 : Known := e16_K379.assume e16_q408 false
theorem e16_L410 : X.prove 300 1000 e16_K408 e16_g = true := by kernel_rfl
def e16_q411 : X := .cmp .gtr (.iv 0) (.lit (.ofNat 7))
def e16_K411 : Known := e16_K409.assume e16_q411 true
def e16_K412 : Known := e16_K409.assume e16_q411 false
theorem e16_L413 : X.prove 300 1000 e16_K411 e16_g = true := by kernel_rfl
def e16_q414 : X := .cmp .eql (.iv 0) (.lit (.ofNat 0))
def e16_K414 : Known := e16_K412.assume e16_q414 true
def e16_K415 : Known := e16_K412.assume e16_q414 false
theorem e16_L416 : X.prove 300 1000 e16_K414 e16_g = true := by kernel_rfl
def e16_q417 : X := .cmp .eql (.iv 0) (.lit (.ofNat 1))
def e16_K417 : Known := e16_K415.assume e16_q417 true
def e16_K418 : Known := e16_K415.assume e16_q417 false
theorem e16_L419 : X.prove 300 1000 e16_K417 e16_g = true := by kernel_rfl
def e16_q420 : X := .cmp .eql (.iv 0) (.lit (.ofNat 2))
def e16_K420 : Known := e16_K418.assume e16_q420 true
def e16_K421 : Known := e16_K418.assume e16_q420 false
theorem e16_L422 : X.prove 300 1000 e16_K420 e16_g = true := by kernel_rfl
def e16_q423 : X := .cmp .eql (.iv 0) (.lit (.ofNat 3))
def e16_K423 : Known := e16_K421.assume e16_q423 true
def e16_K424 : Known := e16_K421.assume e16_q423 false
theorem e16_L425 : X.prove 300 1000 e16_K423 e16_g = true := by kernel_rfl
def e16_q426 : X := .cmp .eql (.iv 0) (.lit (.ofNat 4))
def e16_K426 : Known := e16_K424.assume e16_q426 true
def e16_K427 : Known := e16_K424.assume e16_q426 false
theorem e16_L428 : X.prove 300 1000 e16_K426 e16_g = true := by kernel_rfl
def e16_q429 : X := .cmp .eql (.iv 0) (.lit (.ofNat 5))
def e16_K429 : Known := e16_K427.assume e16_q429 true
def e16_K430 : Known := e16_K427.assume e16_q429 false
theorem e16_L431 : X.prove 300 1000 e16_K429 e16_g = true := by kernel_rfl
def e16_q432 : X := .cmp .eql (.iv 0) (.lit (.ofNat 6))
def e16_K432 : Known := e16_K430.assume e16_q432 true
def e16_K433 : Known := e16_K430.assume e16_q432 false
theorem e16_L434 : X.prove 300 1000 e16_K432 e16_g = true := by kernel_rfl
theorem e16_L435 : X.prove 300 1000 e16_K433 e16_g = true := by kernel_rfl
def e16_q436 : X := .cmp .neq (.ite (.cmp .lss (.lit (.ofNat 8192)) (.iv 3)) (.ite (.cmp .lss (.lit (.ofNat 16384)) (.iv 3)) (.ite (.cmp .lss (.lit (.ofNat 32768)) (.iv 3)) (.ite (.cmp .lss (.lit (.ofNat 65536)) (.iv 3)) (.ite (.cmp .lss (.lit (.ofNat 131072)) (.iv 3)) (.lit (.ofNat 262144)) (.lit (.ofNat 131072))) (.lit (.ofNat 65536))) (.lit (.ofNat 32768))) (.lit (.ofNat 16384))) (.lit (.ofNat 8192))) (.iv 3)
def e16_K436 : Known := e16_K57.assume e16_q436 true
def e16_q437 : X := .cmp .eql (.iv 3) (.lit (.ofNat 8192))
def e16_K437 : Known := e16_K57.assume e16_q437 true
def e16_K438 : Known := e16_K57.assume e16_q437 false
theorem e16_L439 : X.prove 300 1000 e16_K437 e16_q436 = true := by kernel_rfl
def e16_q440 : X := .cmp .eql (.iv 3) (.lit (.ofNat 16384))
def e16_K440 : Known := e16_K438.assume e16_q440 true
def e16_K441 : Known := e16_K438.assume e16_q440 false
theorem e16_L442 : X.prove 300 1000 e16_K440 e16_q436 = true := by kernel_rfl
def e16_q443 : X := .cmp .eql (.iv 3) (.lit (.ofNat 32768))
def e16_K443 : Known := e16_K441.assume e16_q443 true
def e16_K444 : Known := e16_K441.assume e16_q443 false
theorem e16_L445 : X.prove 300 1000 e16_K443 e16_q436 = true := by kernel_rfl
def e16_q446 : X := .cmp .eql (.iv 3) (.lit (.ofNat 65536))
def e16_K446 : Known := e16_K444.assume e16_q446 true
def e16_K447 : Known := e16_K444.assume e16_q446 false
theorem e16_L448 : X.prove 300 1000 e16_K446 e16_q436 = true := by kernel_rfl
def e16_q449 : X := .cmp .eql (.iv 3) (.lit (.ofNat 131072))
def e16_K449 : Known := e16_K447.assume e16_q449 true
def e16_K450 : Known := e16_K447.assume e16_q449 false
theorem e16_L451 : X.prove 300 1000 e16_K449 e16_q436 = true := by kernel_rfl
def e16_q452 : X := .cmp .eql (.iv 3) (.lit (.ofNat 262144))
def e16_K452 : Known := e16_K450.assume e16_q452 true
def e16_K453 : Known := e16_K450.assume e16_q452 false
theorem e16_L454 : X.prove 300 1000 e16_K452 e16_q436 = true := by kernel_rfl
theorem e16_L455 : X.prove 300 1000 e16_K453 e16_q436 = true := by kernel_rfl
def e16_q456 : X := .cmp .lss (.iv 0) (.lit (.ofNat 0))
def e16_K456 : Known := e16_K436.assume e16_q456 true
def e16_K457 : Known := e16_K436.assume e16_q456 false
theorem e16_L458 : X.prove 300 1000 e16_K456 e16_g = true := by kernel_rfl
def e16_q459 : X := .cmp .gtr (.iv 0) (.lit (.ofNat 7))
def e16_K459 : Known := e16_K457.assume e16_q459 true
def e16_K460 : Known := e16_K457.assume e16_q459 false
theorem e16_L461 : X.prove 300 1000 e16_K459 e16_g = true := by kernel_rfl
def e16_q462 : X := .cmp .eql (.iv 0) (.lit (.ofNat 0))
def e16_K462 : Known := e16_K460.assume e16_q462 true
def e16_K463 : Known := e16_K460.assume e16_q462 false
theorem e16_L464 : X.prove 300 1000 e16_K462 e16_g = true := by kernel_rfl
def e16_q465 : X := .cmp .eql (.iv 0) (.lit (.ofNat 1))
def e16_K465 : Known := e16_K463.assume e16_q465 true
def e16_K466 : Known := e16_K463.assume e16_q465 false
theorem e16_L467 : X.prove 300 1000 e16_K465 e16_g = true := by kernel_rfl
def e16_q468 : X := .cmp .eql (.iv 0) (.lit (.ofNat 2))
def e16_K468 : Known := e16_K466.assume e16_q468 true
def e16_K469 : Known := e16_K466.assume e16_q468 false
theorem e16_L470 : X.prove 300 1000 e16_K468 e16_g = true := by kernel_rfl
def e16_q471 : X := .cmp .eql (.iv 0) (.lit (.ofNat 3))
def e16_K471 : Known := e16_K469.assume e16_q471 true
def e16_K472 : Known := e16_K469.assume e16_q471 false
theorem e16_L473 : X.prove 300 1000 e16_K471 e16_g = true := by kernel_rfl
def e16_q474 : X := .cmp .eql (.iv 0) (.lit (.ofNat 4))
def e16_K474 : Known := e16_K472.assume e16_q474 true
def e16_K475 : Known := e16_K472.assume e16_q474 false
theorem e16_L476 : X.prove 300 1000 e16_K474 e16_g = true := by kernel_rfl
def e16_q477 : X := .cmp .eql (.iv 0) (.lit (.ofNat 5))
def e16_K477 : Known := e16_K475.assume e16_q477 true
def e16_K478 : Known := e16_K475.assume e16_q477 false
theorem e16_L479 : X.prove 300 1000 e16_K477 e16_g = true := by kernel_rfl
def e16_q480 : X := .cmp .eql (.iv 0) (.lit (.ofNat 6))
def e16_K480 : Known := e16_K478.assume e16_q480 true
def e16_K481 : Known := e16_K478.assume e16_q480 false
theorem e16_L482 : X.prove 300 1000 e16_K480 e16_g = true := by kernel_rfl
theorem e16_L483 : X.prove 300 1000 e16_K481 e16_g = true := by kernel_rfl
def e16_q484 : X := .cmp .neq (.ite (.cmp .lss (.lit (.ofNat 8192)) (.iv 3)) (.ite (.cmp .lss (.lit (.ofNat 16384)) (.iv 3)) (.ite (.cmp .lss (.lit (.ofNat 32768)) (.iv 3)) (.ite (.cmp .lss (.lit (.ofNat 65536)) (.iv 3)) (.ite (.cmp .lss (.lit (.ofNat 131072)) (.iv 3)) (.lit (.ofNat 262144)) (.lit (.ofNat 131072))) (.lit (.ofNat 65536))) (.lit (.ofNat 32768))) (.lit (.ofNat 16384))) (.lit (.ofNat 8192))) (.iv 3)
def e16_K484 : Known := e16_K55.assume e16_q484 true
def e16_q485 : X := .cmp .eql (.iv 3) (.lit (.ofNat 8192))
def e16_K485 : Known := e16_K55.assume e16_q485 true
def e16_K486 : Known := e16_K55.assume e16_q485 false
theorem e16_L487 : X.prove 300 1000 e16_K485 e16_q484 = true := by kernel_rfl
def e16_q488 : X := .cmp .eql (.iv 3) (.lit (.ofNat 16384))
def e16_K488 : Known := e16_K486.assume e16_q488 true
def e16_K489 : Known := e16_K486.assume e16_q488 false
theorem e16_L490 : X.prove 300 1000 e16_K488 e16_q484 = true := by kernel_rfl
def e16_q491 : X := .cmp .eql (.iv 3) (.lit (.ofNat 32768))
def e16_K491 : Known := e16_K489.assume e16_q491 true
def e16_K492 : Known := e16_K489.assume e16_q491 false
theorem e16_L493 : X.prove 300 1000 e16_K491 e16_q484 = true := by kernel_rfl
def e16_q494 : X := .cmp .eql (.iv 3) (.lit (.ofNat 65536))
def e16_K494 : Known := e16_K492.assume e16_q494 true
def e16_K495 : Known := e16_K492.assume e16_q494 false
theorem e16_L496 : X.prove 300 1000 e16_K494 e16_q484 = true := by kernel_rfl
def e16_q497 : X := .cmp .eql (.iv 3) (.lit (.ofNat 131072))
def e16_K497 : Known := e16_K495.assume e16_q497 true
def e16_K498 : Known := e16_K495.assume e16_q497 false
theorem e16_L499 : X.prove 300 1000 e16_K497 e16_q484 = true := by kernel_rfl
def e16_q500 : X := .cmp .eql (.iv 3) (.lit (.ofNat 262144))
def e16_K500 : Known := e16_K498.assume e16_q500 true
def e16_K501 : Known := e16_K498.assume e16_q500 false
theorem e16_L502 : X.prove 300 1000 e16_K500 e16_q484 = true := by kernel_rfl
theorem e16_L503 : X.prove 300 1000 e16_K501 e16_q484 = true := by kernel_rfl
def e16_q504 : X := .cmp .lss (.iv 0) (.lit (.ofNat 0))
def e16_K504 : Known := e16_K484.assume e16_q504 true
def e16_K505 : Known := e16_K484.assume e16_q504 false
theorem e16_L506 : X.prove 300 1000 e16_K504 e16_g = true := by kernel_rfl
def e16_q507 : X := .cmp .gtr (.iv 0) (.lit (.ofNat 7))
def e16_K507 : Known := e16_K505.assume e16_q507 true
def e16_K508 : Known := e16_K505.assume e16_q507 false
theorem e16_L509 : X.prove 300 1000 e16_K507 e16_g = true := by kernel_rfl
def e16_q510 : X := .cmp .eql (.iv 0) (.lit (.ofNat 0))
def e16_K510 : Known := e16_K508.assume e16_q510 true
def e16_K511 : Known := e16_K508.assume e16_q510 false
theorem e16_L512 : X.prove 300 1000 e16_K510 e16_g = true := by kernel_rfl
def e16_q513 : X := .cmp .eql (.iv 0) (.lit (.ofNat 1))
def e16_K513 : Known := e16_K511.assume e16_q513 true
def e16_K514 : Known := e16_K511.assume e16_q513 false
theorem e16_L515 : X.prove 300 1000 e16_K513 e16_g = true := by kernel_rfl
def e16_q516 : X := .cmp .eql (.iv 0) (.lit (.ofNat 2))
def e16_K516 : Known := e16_K514.assume e16_q516 true
def e16_K517 : Known := e16_K514.assume e16_q516 false
theorem e16_L518 : X.prove 300 1000 e16_K516 e16_g = true := by kernel_rfl
def e16_q519 : X := .cmp .eql (.iv 0) (.lit (.ofNat 3))
def e16_K519 : Known := e16_K517.assume e16_q519 true
def e16_K520 : Known := e16_K517.assume e16_q519 false
theorem e16_L521 : X.prove 300 1000 e16_K519 e16_g = true := by kernel_rfl
def e16_q522 : X := .cmp .eql (.iv 0) (.lit (.ofNat 4))
def e16_K522 : Known := e16_K520.assume e16_q522 true
def e16_K523 : Known := e16_K520.assume e16_q522 false
theorem e16_L524 : X.prove 300 1000 e16_K522 e16_g = true := by kernel_rfl
def e16_q525 : X := .cmp .eql (.iv 0) (.lit (.ofNat 5))
def e16_K525 : Known := e16_K523.assume e16_q525 true
def e16_K526 : Known := e16_K523.assume e16_q525 false
theorem e16_L527 : X.prove 300 1000 e16_K525 e16_g = true := by kernel_rfl
def e16_q528 : X := .cmp .eql (.iv 0) (.lit (.ofNat 6))
def e16_K528 : Known := e16_K526.assume e16_q528 true
def e16_K529 : Known := e16_K526.assume e16_q528 false
theorem e16_L530 : X.prove 300 1000 e16_K528 e16_g = true := by kernel_rfl
theorem e16_L531 : X.prove 300 1000 e16_K529 e16_g = true := by kernel_rfl
def e16_q532 : X := .cmp .neq (.ite (.cmp .lss (.lit (.ofNat 16384)) (.iv 2)) (.ite (.cmp .lss (.lit (.ofNat 32768)) (.iv 2)) (.ite (.cmp .lss (.lit (.ofNat 65536)) (.iv 2)) (.ite (.cmp .lss (.lit (.ofNat 131072)) (.iv 2)) (.ite (.cmp .lss (.lit (.ofNat 262144)) (.iv 2)) (.lit (.ofNat 524288)) (.lit (.ofNat 262144))) (.lit (.ofNat 131072))) (.lit (.ofNat 65536))) (.lit (.ofNat 32768))) (.lit (.ofNat 16384))) (.iv 2)
def e16_K532 : Known := e16_K3.assume e16_q532 true
def e16_q533 : X := .cmp .eql (.iv 2) (.lit (.ofNat 16384))
def e16_K533 : Known := e16_K3.assume e16_q533 true
def e16_K534 : Known := e16_K3.assume e16_q533 false
theorem e16_L535 : X.prove 300 1000 e16_K533 e16_q532 = true := by kernel_rfl
def e16_q536 : X := .cmp .eql (.iv 2) (.lit (.ofNat 32768))
def e16_K536 : Known := e16_K534.assume e16_q536 true
def e16_K537 : Known := e16_K534.assume e16_q536 false
theorem e16_L538 : X.prove 300 1000 e16_K536 e16_q532 = true := by kernel_rfl
def e16_q539 : X := .cmp .eql (.iv 2) (.lit (.ofNat 65536))
def e16_K539 : Known := e16_K537.assume e16_q539 true
def e16_K540 : Known := e16_K537.assume e16_q539 false
theorem e16_L541 : X.prove 300 1000 e16_K539 e16_q532 = true := by kernel_rfl
def e16_q542 : X := .cmp .eql (.iv 2) (.lit (.ofNat 131072))
def e16_K542 : Known := e16_K540.assume e16_q542 true
def e16_K543 : Known := e16_K540.assume e16_q542 false
theorem e16_L544 : X.prove 300 1000 e16_K542 e16_q532 = true := by kernel_rfl
def e16_q545 : X := .cmp .eql (.iv 2) (.lit (.ofNat 262144))
def e16_K545 : Known := e16_K543.assume e16_q545 true
def e16_K546 : Known := e16_K543.assume e16_q545 false
theorem e16_L547 : X.prove 300 1000 e16_K545 e16_q532 = true := by kernel_rfl
def e16_q548 : X := .cmp .eql (.iv 2) (.lit (.ofNat 524288))
def e16_K548 : Known := e16_K546.assume e16_q548 true
def e16_K549 : Known := e16_K546.assume e16_q548 false
theorem e16_L550 : X.prove 300 1000 e16_K548 e16_q532 = true := by kernel_rfl
theorem e16_L551 : X.prove 300 1000 e16_K549 e16_q532 = true := by kernel_rfl
def e16_q552 : X := .cmp .lss (.iv 0) (.lit (.ofNat 0))
def e16_K552 : Known := e16_K532.assume e16_q552 true
def e16_K553 : Known := e16_K532.assume e16_q552 false
theorem e16_L554 : X.prove 300 1000 e16_K552 e16_g = true := by kernel_rfl
def e16_q555 : X := .cmp .gtr (.iv 0) (.lit (.ofNat 7))
def e16_K555 : Known := e16_K553.assume e16_q555 true
def e16_K556 : Known := e16_K553.assume e16_q555 false
theorem e16_L557 : X.prove 300 1000 e16_K555 e16_g = true := by kernel_rfl
def e16_q558 : X := .cmp .eql (.iv 0) (.lit (.ofNat 0))
def e16_K558 : Known := e16_K556.assume e16_q558 true
def e16_K559 : Known := e16_K556.assume e16_q558 false
theorem e16_L560 : X.prove 300 1000 e16_K558 e16_g = true := by kernel_rfl
def e16_q561 : X := .cmp .eql (.iv 0) (.lit (.ofNat 1))
def e16_K561 : Known := e16_K559.assume e16_q561 true
def e16_K562 : Known := e16_K559.assume e16_q561 false
theorem e16_L563 : X.prove 300 1000 e16_K561 e16_g = true := by kernel_rfl
def e16_q564 : X := .cmp .eql (.iv 0) (.lit (.ofNat 2))
def e16_K564 : Known := e16_K562.assume e16_q564 true
def e16_K565 : Known := e16_K562.assume e16_q564 false
theorem e16_L566 : X.prove 300 1000 e16_K564 e16_g = true := by kernel_rfl
def e16_q567 : X := .cmp .eql (.iv 0) (.lit (.ofNat 3))
def e16_K567 : Known := e16_K565.assume e16_q567 true
def e16_K568 : Known := e16_K565.assume e16_q567 false
theorem e16_L569 : X.prove 300 1000 e16_K567 e16_g = true := by kernel_rfl
def e16_q570 : X := .cmp .eql (.iv 0) (.lit (.ofNat 4))
def e16_K570 : Known := e16_K568.assume e16_q570 true
def e16_K571 : Known := e16_K568.assume e16_q570 false
theorem e16_L572 : X.prove 300 1000 e16_K570 e16_g = true := by kernel_rfl
def e16_q573 : X := .cmp .eql (.iv 0) (.lit (.ofNat 5))
def e16_K573 : Known := e16_K571.assume e16_q573 true
def e16_K574 : Known := e16_K571.assume e16_q573 false
theorem e16_L575 : X.prove 300 1000 e16_K573 e16_g = true := by kernel_rfl
def e16_q576 : X := .cmp .eql (.iv 0) (.lit (.ofNat 6))
def e16_K576 : Known := e16_K574.assume e16_q576 true
def e16_K577 : Known := e16_K574.assume e16_q576 false
theorem e16_L578 : X.prove 300 1000 e16_K576 e16_g = true := by kernel_rfl
theorem e16_L579 : X.prove 300 1000 e16_K577 e16_g = true := by kernel_rfl
def e16_q580 : X := .cmp .neq (.ite (.cmp .lss (.lit (.ofNat 16384)) (.iv 2)) (.ite (.cmp .lss (.lit (.ofNat 32768)) (.iv 2)) (.ite (.cmp .lss (.lit (.ofNat 65536)) (.iv 2)) (.ite (.cmp .lss (.lit (.ofNat 131072)) (.iv 2)) (.ite (.cmp .lss (.lit (.ofNat 262144)) (.iv 2)) (.lit (.ofNat 524288)) (.lit (.ofNat 262144))) (.lit (.ofNat 131072))) (.lit (.ofNat 65536))) (.lit (.ofNat 32768))) (.lit (.ofNat 16384))) (.iv 2)
def e16_K580 : Known := e16_K1.assume e16_q580 true
def e16_q581 : X := .cmp .eql (.iv 2) (.lit (.ofNat 16384))
def e16_K581 : Known := e16_K1.assume e16_q581 true
def e16_K582 : Known := e16_K1.assume e16_q581 false
theorem e16_L583 : X.prove 300 1000 e16_K581 e16_q580 = true := by kernel_rfl
def e16_q584 : X := .cmp .eql (.iv 2) (.lit (.ofNat 32768))
def e16_K584 : Known := e16_K582.assume e16_q584 true
def e16_K585 : Known := e16_K582.assume e16_q584 false
theorem e16_L586 : X.prove 300 1000 e16_K584 e16_q580 = true := by kernel_rfl
def e16_q587 : X := .cmp .eql (.iv 2) (.lit (.ofNat 65536))
def e16_K587 : Known := e16_K585.assume e16_q587 true
def e16_K588 : Known := e16_K585.assume e16_q587 false
theorem e16_L589 : X.prove 300 1000 e16_K587 e16_q580 = true := by kernel_rfl
def e16_q590 : X := .cmp .eql (.iv 2) (.lit (.ofNat 131072))
def e16_K590 : Known := e16_K588.assume e16_q590 true
def e16_K591 : Known := e16_K588.assume e16_q590 false
theorem e16_L592 : X.prove 300 1000 e16_K590 e16_q580 = true := by kernel_rfl
def e16_q593 : X := .cmp .eql (.iv 2) (.lit (.ofNat 262144))
def e16_K593 : Known := e16_K591.assume e16_q593 true
def e16_K594 : Known := e16_K591.assume e16_q593 false
theorem e16_L595 : X.prove 300 1000 e16_K593 e16_q580 = true := by kernel_rfl
def e16_q596 : X := .cmp .eql (.iv 2) (.lit (.ofNat 524288))
def e16_K596 : Known := e16_K594.assume e16_q596 true
def e16_K597 : Known := e16_K594.assume e16_q596 false
theorem e16_L598 : X.prove 300 1000 e16_K596 e16_q580 = true := by kernel_rfl
theorem e16_L599 : X.prove 300 1000 e16_K597 e16_q580 = true := by kernel_rfl
def e16_q600 : X := .cmp .lss (.iv 0) (.lit (.ofNat 0))
def e16_K600 : Known := e16_K580.assume e16_q600 true
def e16_K601 : Known := e16_K580.assume e16_q600 false
theorem e16_L602 : X.prove 300 1000 e16_K600 e16_g = true := by kernel_rfl
def e16_q603 : X := .cmp .gtr (.iv 0) (.lit (.ofNat 7))
def e16_K603 : Known := e16_K601.assume e16_q603 true
def e16_K604 : Known := e16_K601.assume e16_q603 false
theorem e16_L605 : X.prove 300 1000 e16_K603 e16_g = true := by kernel_rfl
def e16_q606 : X := .cmp .eql (.iv 0) (.lit (.ofNat 0))
def e16_K606 : Known := e16_K604.assume e16_q606 true
def e16_K607 : Known := e16_K604.assume e16_q606 false
theorem e16_L608 : X.prove 300 1000 e16_K606 e16_g = true := by kernel_rfl
def e16_q609 : X := .cmp .eql (.iv 0) (.lit (.ofNat 1))
def e16_K609 : Known := e16_K607.assume e16_q609 true
def e16_K610 : Known := e16_K607.assume e16_q609 false
theorem e16_L611 : X.prove 300 1000 e16_K609 e16_g = true := by kernel_rfl
def e16_q612 : X := .cmp .eql (.iv 0) (.lit (.ofNat 2))
def e16_K612 : Known := e16_K610.assume e16_q612 true
def e16_K613 : Known := e16_K610.assume e16_q612 false
theorem e16_L614 : X.prove 300 1000 e16_K612 e16_g = true := by kernel_rfl
def e16_q615 : X := .cmp .eql (.iv 0) (.lit (.ofNat 3))
def e16_K615 : Known := e16_K613.assume e16_q615 true
def e16_K616 : Known := e16_K613.assume e16_q615 false
theorem e16_L617 : X.prove 300 1000 e16_K615 e16_g = true := by kernel_rfl
def e16_q618 : X := .cmp .eql (.iv 0) (.lit (.ofNat 4))
def e16_K618 : Known := e16_K616.assume e16_q618 true
def e16_K619 : Known := e16_K616.assume e16_q618 false
theorem e16_L620 : X.prove 300 1000 e16_K618 e16_g = true := by kernel_rfl
def e16_q621 : X := .cmp .eql (.iv 0) (.lit (.ofNat 5))
def e16_K621 : Known := e16_K619.assume e16_q621 true
def e16_K622 : Known := e16_K619.assume e16_q621 false
theorem e16_L623 : X.prove 300 1000 e16_K621 e16_g = true := by kernel_rfl
def e16_q624 : X := .cmp .eql (.iv 0) (.lit (.ofNat 6))
def e16_K624 : Known := e16_K622.assume e16_q624 true
def e16_K625 : Known := e16_K622.assume e16_q624 false
theorem e16_L626 : X.prove 300 1000 e16_K624 e16_g = true := by kernel_rfl
theorem e16_L627 : X.prove 300 1000 e16_K625 e16_g = true := by kernel_rfl
theorem eq16 : ∀ ρ, (⟨ks16.map LK.rg, []⟩ : Known).ok ρ → e16_g.B ρ = true := fun _ (h : e16_K.ok _) => split_on e16_q0 h (fun (h : e16_K0.ok _) => split_on e16_q2 h (fun (h : e16_K2.ok _) => split_lem e16_q4 h (show e16_q4.B _ = true from split_on e16_q5 h (fun (h : e16_K5.ok _) => prove_ok h e16_L7) (fun (h : e16_K6.ok _) => split_on e16_q8 h (fun (h : e16_K8.ok _) => prove_ok h e16_L10) (fun (h : e16_K9.ok _) => split_on e16_q11 h (fun (h : e16_K11.ok _) => prove_ok h e16_L13) (fun (h : e16_K12.ok _) => split_on e16_q14 h (fun (h : e16_K14.ok _) => prove_ok h e16_L16) (fun (h : e16_K15.ok _) => split_on e16_q17 h (fun (h : e16_K17.ok _) => prove_ok h e16_L19) (fun (h : e16_K18.ok _) => split_on e16_q20 h (fun (h : e16_K20.ok _) => prove_ok h e16_L22) (fun (h : e16_K21.ok _) => split_on e16_q23 h (fun (h : e16_K23.ok _) => split_lem e16_q25 h (show e16_q25.B _ = true from prove_ok h e16_L26) (fun (h : e16_K25.ok _) => prove_ok h e16_L27)) (fun (h : e16_K24.ok _) => split_on e16_q28 h (fun (h : e16_K28.ok _) => split_lem e16_q30 h (show e16_q30.B _ = true from prove_ok h e16_L31) (fun (h : e16_K30.ok _) => prove_ok h e16_L32)) (fun (h : e16_K29.ok _) => split_on e16_q33 h (fun (h : e16_K33.ok _) => split_lem e16_q35 h (show e16_q35.B _ = true from prove_ok h e16_L36) (fun (h : e16_K35.ok _) => prove_ok h e16_L37)) (fun (h : e16_K34.ok _) => split_on e16_q38 h (fun (h : e16_K38.ok _) => split_lem e16_q40 h (show e16_q40.B _ = true from prove_ok h e16_L41) (fun (h : e16_K40.ok _) => prove_ok h e16_L42)) (fun (h : e16_K39.ok _) => split_on e16_q43 h (fun (h : e16_K43.ok _) => split_lem e16_q45 h (show e16_q45.B _ = true from prove_ok h e16_L46) (fun (h : e16_K45.ok _) => prove_ok h e16_L47)) (fun (h : e16_K44.ok _) => split_on e16_q48 h (fun (h : e16_K48.ok _) => split_lem e16_q50 h (show e16_q50.B _ = true from prove_ok h e16_L51) (fun (h : e16_K50.ok _) => prove_ok h e16_L52)) (fun (h : e16_K49.ok _) => prove_ok h e16_L53))))))))))))) (fun (h : e16_K4.ok _) => split_on e16_q54 h (fun (h : e16_K54.ok _) => split_on e16_q56 h (fun (h : e16_K56.ok _) => split_lem e16_q58 h (show e16_q58.B _ = true from split_on e16_q59 h (fun (h : e16_K59.ok _) => prove_ok h e16_L61) (fun (h : e16_K60.ok _) => split_on e16_q62 h (fun (h : e16_K62.ok _) => prove_ok h e16_L64) (fun (h : e16_K63.ok _) => split_on e16_q65 h (fun (h : e16_K65.ok _) => prove_ok h e16_L67) (fun (h : e16_K66.ok _) => split_on e16_q68 h (fun (h : e16_K68.ok _) => prove_ok h e16_L70) (fun (h : e16_K69.ok _) => split_on e16_q71 h (fun (h : e16_K71.ok _) => prove_ok h e16_L73) (fun (h : e16_K72.ok _) => split_on e16_q74 h (fun (h : e16_K74.ok _) => prove_ok h e16_L76) (fun (h : e16_K75.ok _) => split_on e16_q77 h (fun (h : e16_K77.ok _) => split_lem e16_q79 h (show e16_q79.B _ = true from prove_ok h e16_L80) (fun (h : e16_K79.ok _) => prove_ok h e16_L81)) (fun (h : e16_K78.ok _) => split_on e16_q82 h (fun (h : e16_K82.ok _) => split_lem e16_q84 h (show e16_q84.B _ = true from prove_ok h e16_L85) (fun (h : e16_K84.ok _) => prove_ok h e16_L86)) (fun (h : e16_K83.ok _) => split_on e16_q87 h (fun (h : e16_K87.ok _) => split_lem e16_q89 h (show e16_q89.B _ = true from prove_ok h e16_L90) (fun (h : e16_K89.ok _) => prove_ok h e16_L91)) (fun (h : e16_K88.ok _) => split_on e16_q92 h (fun (h : e16_K92.ok _) => split_lem e16_q94 h (show e16_q94.B _ = true from prove_ok h e16_L95) (fun (h : e16_K94.ok _) => prove_ok h e16_L96)) (fun (h : e16_K93.ok _) => split_on e16_q97 h (fun (h : e16_K97.ok _) => split_lem e16_q99 h (show e16_q99.B _ = true from prove_ok h e16_L100) (fun (h : e16_K99.ok _) => prove_ok h e16_L101)) (fun (h : e16_K98.ok _) => split_on e16_q102 h (fun (h : e16_K102.ok _) => split_lem e16_q104 h (show e16_q104.B _ = true from prove_ok h e16_L105) (fun (h : e16_K104.ok _) => prove_ok h e16_L106)) (fun (h : e16_K103.ok _) => prove_ok h e16_L107))))))))))))) (fun (h : e16_K58.ok _) => split_on e16_q108 h (fun (h : e16_K108.ok _) => split_on e16_q110 h (fun (h : e16_K110.ok _) => split_on e16_q112 h (fun (h : e16_K112.ok _) => split_on e16_q114 h (fun (h : e16_K114.ok _) => prove_ok h e16_L116) (fun (h : e16_K115.ok _) => split_on e16_q117 h (fun (h : e16_K117.ok _) => prove_ok h e16_L119) (fun (h : e16_K118.ok _) => split_on e16_q120 h (fun (h : e16_K120.ok _) => prove_ok h e16_L122) (fun (h : e16_K121.ok _) => split_on e16_q123 h (fun (h : e16_K123.ok _) => prove_ok h e16_L125) (fun (h : e16_K124.ok _) => split_on e16_q126 h (fun (h : e16_K126.ok _) => prove_ok h e16_L128) (fun (h : e16_K127.ok _) => split_on e16_q129 h (fun (h : e16_K129.ok _) => prove_ok h e16_L131) (fun (h : e16_K130.ok _) => split_on e16_q132 h (fun (h : e16_K132.ok _) => prove_ok h e16_L134) (fun (h : e16_K133.ok _) => split_on e16_q135 h (fun (h : e16_K135.ok _) => prove_ok h e16_L137) (fun (h : e16_K136.ok _) => split_on e16_q138 h (fun (h : e16_K138.ok _) => prove_ok h e16_L140) (fun (h : e16_K139.ok _) => prove_ok h e16_L141)))))))))) (fun (h : e16_K113.ok _) => split_on e16_q142 h (fun (h : e16_K142.ok _) => split_on e16_q144 h (fun (h : e16_K144.ok _) => prove_ok h e16_L146) (fun (h : e16_K145.ok _) => split_on e16_q147 h (fun (h : e16_K147.ok _) => prove_ok h e16_L149) (fun (h : e16_K148.ok _) => split_on e16_q150 h (fun (h : e16_K150.ok _) => prove_ok h e16_L152) (fun (h : e16_K151.ok _) => split_on e16_q153 h (fun (h : e16_K153.ok _) => prove_ok h e16_L155) (fun (h : e16_K154.ok _) => split_on e16_q156 h (fun (h : e16_K156.ok _) => prove_ok h e16_L158) (fun (h : e16_K157.ok _) => split_on e16_q159 h (fun (h : e16_K159.ok _) => prove_ok h e16_L161) (fun (h : e16_K160.ok _) => split_on e16_q162 h (fun (h : e16_K162.ok _) => prove_ok h e16_L164) (fun (h : e16_K163.ok _) => split_on e16_q165 h (fun (h : e16_K165.ok _) => prove_ok h e16_L167) (fun (h : e16_K166.ok _) => split_on e16_q168 h (fun (h : e16_K168.ok _) => prove_ok h e16_L170) (fun (h : e16_K169.ok _) => prove_ok h e16_L171)))))))))) (fun (h : e16_K143.ok _) => split_on e16_q172 h (fun (h : e16_K172.ok _) => split_on e16_q174 h (fun (h : e16_K174.ok _) => prove_ok h e16_L176) (fun (h : e16_K175.ok _) => split_on e16_q177 h (fun (h : e16_K177.ok _) => prove_ok h e16_L179) (fun (h : e16_K178.ok _) => split_on e16_q180 h (fun (h : e16_K180.ok _) => prove_ok h e16_L182) (fun (h : e16_K181.ok _) => split_on e16_q183 h (fun (h : e16_K183.ok _) => prove_ok h e16_L185) (fun (h : e16_K184.ok _) => split_on e16_q186 h (fun (h : e16_K186.ok _) => prove_ok h e16_L188) (fun (h : e16_K187.ok _) => split_on e16_q189 h (fun (h : e16_K189.ok _) => prove_ok h e16_L191) (fun (h : e16_K190.ok _) => split_on e16_q192 h (fun (h : e16_K192.ok _) => prove_ok h e16_L194) (fun (h : e16_K193.ok _) => split_on e16_q195 h (fun (h : e16_K195.ok _) => prove_ok h e16_L197) (fun (h : e16_K196.ok _) => split_on e16_q198 h (fun (h : e16_K198.ok _) => prove_ok h e16_L200) (fun (h : e16_K199.ok _) => prove_ok h e16_L201)))))))))) (fun (h : e16_K173.ok _) => split_on e16_q202 h (fun (h : e16_K202.ok _) => split_on e16_q204 h (fun (h : e16_K204.ok _) => prove_ok h e16_L206) (fun (h : e16_K205.ok _) => split_on e16_q207 h (fun (h : e16_K207.ok _) => prove_ok h e16_L209) (fun (h : e16_K208.ok _) => split_on e16_q210 h (fun (h : e16_K210.ok _) => prove_ok h e16_L212) (fun (h : e16_K211.ok _) => split_on e16_q213 h (fun (h : e16_K213.ok _) => prove_ok h e16_L215) (fun (h : e16_K214.ok _) => split_on e16_q216 h (fun (h : e16_K216.ok _) => prove_ok h e16_L218) (fun (h : e16_K217.ok _) => split_on e16_q219 h (fun (h : e16_K219.ok _) => prove_ok h e16_L221) (fun (h : e16_K220.ok _) => split_on e16_q222 h (fun (h : e16_K222.ok _) => prove_ok h e16_L224) (fun (h : e16_K223.ok _) => split_on e16_q225 h (fun (h : e16_K225.ok _) => prove_ok h e16_L227) (fun (h : e16_K226.ok _) => split_on e16_q228 h (fun (h : e16_K228.ok _) => prove_ok h e16_L230) (fun (h : e16_K229.ok _) => prove_ok h e16_L231)))))))))) (fun (h : e16_K203.ok _) => split_on e16_q232 h (fun (h : e16_K232.ok _) => prove_ok h e16_L234) (fun (h : e16_K233.ok _) => split_on e16_q235 h (fun (h : e16_K235.ok _) => prove_ok h e16_L237) (fun (h : e16_K236.ok _) => split_on e16_q238 h (fun (h : e16_K238.ok _) => prove_ok h e16_L240) (fun (h : e16_K239.ok _) => split_on e16_q241 h (fun (h : e16_K241.ok _) => prove_ok h e16_L243) (fun (h : e16_K242.ok _) => split_on e16_q244 h (fun (h : e16_K244.ok _) => prove_ok h e16_L246) (fun (h : e16_K245.ok _) => split_on e16_q247 h (fun (h : e16_K247.ok _) => prove_ok h e16_L249) (fun (h : e16_K248.ok _) => split_on e16_q250 h (fun (h : e16_K250.ok _) => prove_ok h e16_L252) (fun (h : e16_K251.ok _) => split_on e16_q253 h (fun (h : e16_K253.ok _) => prove_ok h e16_L255) (fun (h : e16_K254.ok _) => split_on e16_q256 h (fun (h : e16_K256.ok _) => prove_ok h e16_L258) (fun (h : e16_K257.ok _) => prove_ok h e16_L259)))))))))))))) (fun (h : e16_K111.ok _) => split_on e16_q260 h (fun (h : e16_K260.ok _) => prove_ok h e16_L262) (fun (h : e16_K261.ok _) => split_on e16_q263 h (fun (h : e16_K263.ok _) => prove_ok h e16_L265) (fun (h : e16_K264.ok _) => split_on e16_q266 h (fun (h : e16_K266.ok _) => prove_ok h e16_L268) (fun (h : e16_K267.ok _) => split_on e16_q269 h (fun (h : e16_K269.ok _) => prove_ok h e16_L271) (fun (h : e16_K270.ok _) => split_on e16_q272 h (fun (h : e16_K272.ok _) => prove_ok h e16_L274) (fun (h : e16_K273.ok _) => split_on e16_q275 h (fun (h : e16_K275.ok _) => prove_ok h e16_L277) (fun (h : e16_K276.ok _) => split_on e16_q278 h (fun (h : e16_K278.ok _) => prove_ok h e16_L280) (fun (h : e16_K279.ok _) => split_on e16_q281 h (fun (h : e16_K281.ok _) => prove_ok h e16_L283) (fun (h : e16_K282.ok _) => split_on e16_q284 h (fun (h : e16_K284.ok _) => prove_ok h e16_L286) (fun (h : e16_K285.ok _) => prove_ok h e16_L287))))))))))) (fun (h : e16_K109.ok _) => split_on e16_q288 h (fun (h : e16_K288.ok _) => split_on e16_q290 h (fun (h : e16_K290.ok _) => prove_ok h e16_L292) (fun (h : e16_K291.ok _) => split_on e16_q293 h (fun (h : e16_K293.ok _) => prove_ok h e16_L295) (fun (h : e16_K294.ok _) => split_on e16_q296 h (fun (h : e16_K296.ok _) => prove_ok h e16_L298) (fun (h : e16_K297.ok _) => split_on e16_q299 h (fun (h : e16_K299.ok _) => prove_ok h e16_L301) (fun (h : e16_K300.ok _) => split_on e16_q302 h (fun (h : e16_K302.ok _) => prove_ok h e16_L304) (fun (h : e16_K303.ok _) => split_on e16_q305 h (fun (h : e16_K305.ok _) => prove_ok h e16_L307) (fun (h : e16_K306.ok _) => split_on e16_q308 h (fun (h : e16_K308.ok _) => prove_ok h e16_L310) (fun (h : e16_K309.ok _) => split_on e16_q311 h (fun (h : e16_K311.ok _) => prove_ok h e16_L313) (fun (h : e16_K312.ok _) => split_on e16_q314 h (fun (h : e16_K314.ok _) => prove_ok h e16_L316) (fun (h : e16_K315.ok _) => prove_ok h e16_L317)))))))))) (fun (h : e16_K289.ok _) => split_on e16_q318 h (fun (h : e16_K318.ok _) => split_on e16_q320 h (fun (h : e16_K320.ok _) => prove_ok h e16_L322) (fun (h : e16_K321.ok _) => split_on e16_q323 h (fun (h : e16_K323.ok _) => prove_ok h e16_L325) (fun (h : e16_K324.ok _) => split_on e16_q326 h (fun (h : e16_K326.ok _) => prove_ok h e16_L328) (fun (h : e16_K327.ok _) => split_on e16_q329 h (fun (h : e16_K329.ok _) => prove_ok h e16_L331) (fun (h : e16_K330.ok _) => split_on e16_q332 h (fun (h : e16_K332.ok _) => prove_ok h e16_L334) (fun (h : e16_K333.ok _) => split_on e16_q335 h (fun (h : e16_K335.ok _) => prove_ok h e16_L337) (fun (h : e16_K336.ok _) => split_on e16_q338 h (fun (h : e16_K338.ok _) => prove_ok h e16_L340) (fun (h : e16_K339.ok _) => split_on e16_q341 h (fun (h : e16_K341.ok _) => prove_ok h e16_L343) (fun (h : e16_K342.ok _) => split_on e16_q344 h (fun (h : e16_K344.ok _) => prove_ok h e16_L346) (fun (h : e16_K345.ok _) => prove_ok h e16_L347)))))))))) (fun (h : e16_K319.ok _) => split_on e16_q348 h (fun (h : e16_K348.ok _) => split_on e16_q350 h (fun (h : e16_K350.ok _) => prove_ok h e16_L352) (fun (h : e16_K351.ok _) => split_on e16_q353 h (fun (h : e16_K353.ok _) => prove_ok h e16_L355) (fun (h : e16_K354.ok _) => split_on e16_q356 h (fun (h : e16_K356.ok _) => prove_ok h e16_L358) (fun (h : e16_K357.ok _) => split_on e16_q359 h (fun (h : e16_K359.ok _) => prove_ok h e16_L361) (fun (h : e16_K360.ok _) => split_on e16_q362 h (fun (h : e16_K362.ok _) => prove_ok h e16_L364) (fun (h : e16_K363.ok _) => split_on e16_q365 h (fun (h : e16_K365.ok _) => prove_ok h e16_L367) (fun (h : e16_K366.ok _) => split_on e16_q368 h (fun (h : e16_K368.ok _) => prove_ok h e16_L370) (fun (h : e16_K369.ok _) => split_on e16_q371 h (fun (h : e16_K371.ok _) => prove_ok h e16_L373) (fun (h : e16_K372.ok _) => split_on e16_q374 h (fun (h : e16_K374.ok _) => prove_ok h e16_L376) (fun (h : e16_K375.ok _) => prove_ok h e16_L377)))))))))) (fun (h : e16_K349.ok _) => split_on e16_q378 h (fun (h : e16_K378.ok _) => split_on e16_q380 h (fun (h : e16_K380.ok _) => prove_ok h e16_L382) (fun (h : e16_K381.ok _) => split_on e16_q383 h (fun (h : e16_K383.ok _) => prove_ok h e16_L385) (fun (h : e16_K384.ok _) => split_on e16_q386 h (fun (h : e16_K386.ok _) => prove_ok h e16_L388) (fun (h : e16_K387.ok _) => split_on e16_q389 h (fun (h : e16_K389.ok _) => prove_ok h e16_L391) (fun (h : e16_K390.ok _) => split_on e16_q392 h (fun (h : e16_K392.ok _) => prove_ok h e16_L394) (fun (h : e16_K393.ok _) => split_on e16_q395 h (fun (h : e16_K395.ok _) => prove_ok h e16_L397) (fun (h : e16_K396.ok _) => split_on e16_q398 h (fun (h : e16_K398.ok _) => prove_ok h e16_L400) (fun (h : e16_K399.ok _) => split_on e16_q401 h (fun (h : e16_K401.ok _) => prove_ok h e16_L403) (fun (h : e16_K402.ok _) => split_on e16_q404 h (fun (h : e16_K404.ok _) => prove_ok h e16_L406) (fun (h : e16_K405.ok _) => prove_ok h e16_L407)))))))))) (fun (h : e16_K379.ok _) => split_on e16_q408 h (fun (h : e16_K408.ok _) => prove_ok h e16_L410) (fun (h : e16_K409.ok _) => split_on e16_q411 h (fun (h : e16_K411.ok _) => prove_ok h e16_L413) (fun (h : e16_K412.ok _) => split_on e16_q414 h (fun (h : e16_K414.ok _) => prove_ok h e16_L416) (fun (h : e16_K415.ok _) => split_on e16_q417 h (fun (h : e16_K417.ok _) => prove_ok h e16_L419) (fun (h : e16_K418.ok _) => split_on e16_q420 h (fun (h : e16_K420.ok _) => prove_ok h e16_L422) (fun (h : e16_K421.ok _) => split_on e16_q423 h (fun (h : e16_K423.ok _) => prove_ok h e16_L425) (fun (h : e16_K424.ok _) => split_on e16_q426 h (fun (h : e16_K426.ok _) => prove_ok h e16_L428) (fun (h : e16_K427.ok _) => split_on e16_q429 h (fun (h : e16_K429.ok _) => prove_ok h e16_L431) (fun (h : e16_K430.ok _) => split_on e16_q432 h (fun (h : e16_K432.ok _) => prove_ok h e16_L434) (fun (h : e16_K433.ok _) => prove_ok h e16_L435)))))))))))))))) (fun (h : e16_K57.ok _) => split_lem e16_q436 h (show e16_q436.B _ = true from split_on e16_q437 h (fun (h : e16_K437.ok _) => prove_ok h e16_L439) (fun (h : e16_K438.ok _) => split_on e16_q440 h (fun (h : e16_K440.ok _) => prove_ok h e16_L442) (fun (h : e16_K441.ok _) => split_on e16_q443 h (fun (h : e16_K443.ok _) => prove_ok h e16_L445) (fun (h : e16_K444.ok _) => split_on e16_q446 h (fun (h : e16_K446.ok _) => prove_ok h e16_L448) (fun (h : e16_K447.ok _) => split_on e16_q449 h (fun (h : e16_K449.ok _) => prove_ok h e16_L451) (fun (h : e16_K450.ok _) => split_on e16_q452 h (fun (h : e16_K452.ok _) => prove_ok h e16_L454) (fun (h : e16_K453.ok _) => prove_ok h e16_L455))))))) (fun (h : e16_K436.ok _) => split_on e16_q456 h (fun (h : e16_K456.ok _) => prove_ok h e16_L458) (fun (h : e16_K457.ok _) => split_on e16_q459 h (fun (h : e16_K459.ok _) => prove_ok h e16_L461) (fun (h : e16_K460.ok _) => split_on e16_q462 h (fun (h : e16_K462.ok _) => prove_ok h e16_L464) (fun (h : e16_K463.ok _) => split_on e16_q465 h (fun (h : e16_K465.ok _) => prove_ok h e16_L467) (fun (h : e16_K466.ok _) => split_on e16_q468 h (fun (h : e16_K468.ok _) => prove_ok h e16_L470) (fun (h : e16_K469.ok _) => split_on e16_q471 h (fun (h : e16_K471.ok _) => prove_ok h e16_L473) (fun (h : e16_K472.ok _) => split_on e16_q474 h (fun (h : e16_K474.ok _) => prove_ok h e16_L476) (fun (h : e16_K475.ok _) => split_on e16_q477 h (fun (h : e16_K477.ok _) => prove_ok h e16_L479) (fun (h : e16_K478.ok _) => split_on e16_q480 h (fun (h : e16_K480.ok _) => prove_ok h e16_L482) (fun (h : e16_K481.ok _) => prove_ok h e16_L483)))))))))))) (fun (h : e16_K55.ok _) => split_lem e16_q484 h (show e16_q484.B _ = true from split_on e16_q485 h (fun (h : e16_K485.ok _) => prove_ok h e16_L487) (fun (h : e16_K486.ok _) => split_on e16_q488 h (fun (h : e16_K488.ok _) => prove_ok h e16_L490) (fun (h : e16_K489.ok _) => split_on e16_q491 h (fun (h : e16_K491.ok _) => prove_ok h e16_L493) (fun (h : e16_K492.ok _) => split_on e16_q494 h (fun (h : e16_K494.ok _) => prove_ok h e16_L496) (fun (h : e16_K495.ok _) => split_on e16_q497 h (fun (h : e16_K497.ok _) => prove_ok h e16_L499) (fun (h : e16_K498.ok _) => split_on e16_q500 h (fun (h : e16_K500.ok _) => prove_ok h e16_L502) (fun (h : e16_K501.ok _) => prove_ok h e16_L503))))))) (fun (h : e16_K484.ok _) => split_on e16_q504 h (fun (h : e16_K504.ok _) => prove_ok h e16_L506) (fun (h : e16_K505.ok _) => split_on e16_q507 h (fun (h : e16_K507.ok _) => prove_ok h e16_L509) (fun (h : e16_K508.ok _) => split_on e16_q510 h (fun (h : e16_K510.ok _) => prove_ok h e16_L512) (fun (h : e16_K511.ok _) => split_on e16_q513 h (fun (h : e16_K513.ok _) => prove_ok h e16_L515) (fun (h : e16_K514.ok _) => split_on e16_q516 h (fun (h : e16_K516.ok _) => prove_ok h e16_L518) (fun (h : e16_K517.ok _) => split_on e16_q519 h (fun (h : e16_K519.ok _) => prove_ok h e16_L521) (fun (h : e16_K520.ok _) => split_on e16_q522 h (fun (h : e16_K522.ok _) => prove_ok h e16_L524) (fun (h : e16_K523.ok _) => split_on e16_q525 h (fun (h : e16_K525.ok _) => prove_ok h e16_L527) (fun (h : e16_K526.ok _) => split_on e16_q528 h (fun (h : e16_K528.ok _) => prove_ok h e16_L530) (fun (h : e16_K529.ok _) => prove_ok h e16_L531))))))))))))) (fun (h : e16_K3.ok _) => split_lem e16_q532 h (show e16_q532.B _ = true from split_on e16_q533 h (fun (h : e16_K533.ok _) => prove_ok h e16_L535) (fun (h : e16_K534.ok _) => split_on e16_q536 h (fun (h : e16_K536.ok _) => prove_ok h e16_L538) (fun (h : e16_K537.ok _) => split_on e16_q539 h (fun (h : e16_K539.ok _) => prove_ok h e16_L541) (fun (h : e16_K540.ok _) => split_on e16_q542 h (fun (h : e16_K542.ok _) => prove_ok h e16_L544) (fun (h : e16_K543.ok _) => split_on e16_q545 h (fun (h : e16_K545.ok _) => prove_ok h e16_L547) (fun (h : e16_K546.ok _) => split_on e16_q548 h (fun (h : e16_K548.ok _) => prove_ok h e16_L550) (fun (h : e16_K549.ok _) => prove_ok h e16_L551))))))) (fun (h : e16_K532.ok _) => split_on e16_q552 h (fun (h : e16_K552.ok _) => prove_ok h e16_L554) (fun (h : e16_K553.ok _) => split_on e16_q555 h (fun (h : e16_K555.ok _) => prove_ok h e16_L557) (fun (h : e16_K556.ok _) => split_on e16_q558 h (fun (h : e16_K558.ok _) => prove_ok h e16_L560) (fun (h : e16_K559.ok _) => split_on e16_q561 h (fun (h : e16_K561.ok _) => prove_ok h e16_L563) (fun (h : e16_K562.ok _) => split_on e16_q564 h (fun (h : e16_K564.ok _) => prove_ok h e16_L566) (fun (h : e16_K565.ok _) => split_on e16_q567 h (fun (h : e16_K567.ok _) => prove_ok h e16_L569) (fun (h : e16_K568.ok _) => split_on e16_q570 h (fun (h : e16_K570.ok _) => prove_ok h e16_L572) (fun (h : e16_K571.ok _) => split_on e16_q573 h (fun (h : e16_K573.ok _) => prove_ok h e16_L575) (fun (h : e16_K574.ok _) => split_on e16_q576 h (fun (h : e16_K576.ok _) => prove_ok h e16_L578) (fun (h : e16_K577.ok _) => prove_ok h e16_L579)))))))))))) (fun (h : e16_K1.ok _) => split_lem e16_q580 h (show e16_q580.B _ = true from split_on e16_q581 h (fun (h : e16_K581.ok _) => prove_ok h e16_L583) (fun (h : e16_K582.ok _) => split_on e16_q584 h (fun (h : e16_K584.ok _) => prove_ok h e16_L586) (fun (h : e16_K585.ok _) => split_on e16_q587 h (fun (h : e16_K587.ok _) => prove_ok h e16_L589) (fun (h : e16_K588.ok _) => split_on e16_q590 h (fun (h : e16_K590.ok _) => prove_ok h e16_L592) (fun (h : e16_K591.ok _) => split_on e16_q593 h (fun (h : e16_K593.ok _) => prove_ok h e16_L595) (fun (h : e16_K594.ok _) => split_on e16_q596 h (fun (h : e16_K596.ok _) => prove_ok h e16_L598) (fun (h : e16_K597.ok _) => prove_ok h e16_L599))))))) (fun (h : e16_K580.ok _) => split_on e16_q600 h (fun (h : e16_K600.ok _) => prove_ok h e16_L602) (fun (h : e16_K601.ok _) => split_on e16_q603 h (fun (h : e16_K603.ok _) => prove_ok h e16_L605) (fun (h : e16_K604.ok _) => split_on e16_q606 h (fun (h : e16_K606.ok _) => prove_ok h e16_L608) (fun (h : e16_K607.ok _) => split_on e16_q609 h (fun (h : e16_K609.ok _) => prove_ok h e16_L611) (fun (h : e16_K610.ok _) => split_on e16_q612 h (fun (h : e16_K612.ok _) => prove_ok h e16_L614) (fun (h : e16_K613.ok _) => split_on e16_q615 h (fun (h : e16_K615.ok _) => prove_ok h e16_L617) (fun (h : e16_K616.ok _) => split_on e16_q618 h (fun (h : e16_K618.ok _) => prove_ok h e16_L620) (fun (h : e16_K619.ok _) => split_on e16_q621 h (fun (h : e16_K621.ok _) => prove_ok h e16_L623) (fun (h : e16_K622.ok _) => split_on e16_q624 h (fun (h : e16_K624.ok _) => prove_ok h e16_L626) (fun (h : e16_K625.ok _) => prove_ok h e16_L627)))))))))))
def sums16 : List Sm := ⟨16, ss16, ks16, v21⟩ :: sums15
theorem sok16 : SumsOk Try.prog sums16 := sums_as mixed sok15 args16 tree16 .i64 (by kernel_rfl) (by kernel_rfl) eq16
def x9_9 : X := .not (.or (.and (.cmp .geq (.iv 0) (.lit (.ofNat 0))) (.cmp .leq (.iv 0) (.lit (.ofNat 4)))) (.cmp .eql (.iv 0) (.lit (.ofNat 7))))
def x9_21 : X := .ite (.cmp .gtr (.iv 5) (.iv 3)) (.iv 5) (.iv 3)
def x9_23 : X := .ite (.cmp .gtr (.iv 6) x9_21) (.iv 6) x9_21
def x9_25 : X := .ite (.cmp .gtr (.iv 7) x9_23) (.iv 7) x9_23
def v9 : ST := .v (.c (.ci .i64 (.ite (.or (.or (.or (.or (.cmp .neq (.ite x9_9 (.ite x9_9 (.lit (.ofNat 6)) (.lit (.ofNat 1))) (.lit (.ofNat 0))) (.lit (.ofNat 0))) (.cmp .geq (.ite (.cmp .gtr (.iv 8) x9_25) (.iv 8) x9_25) (.lit (.ofNat 32)))) (.cmp .geq (.iv 4) (.lit (.ofNat 5)))) (.cmp .lss (.iv 26) (.lit (.ofNat 0)))) (.cmp .gtr (.iv 26) (.lit (.ofNat 100)))) (.lit (.ofNat 1)) (.lit (.ofNat 0)))))
def ss9 : List SV := [.agg [.ci .i64 (.iv 0), .cb (.bv 1), .cb (.bv 2), .ci .u8 (.iv 3), .ci .u8 (.iv 4), .ci .u8 (.iv 5), .ci .u8 (.iv 6), .ci .u8 (.iv 7), .ci .u8 (.iv 8), .ci .i64 (.iv 9), .ci .u8 (.iv 10), .ci .u8 (.iv 11), .ci .u8 (.iv 12), .ci .u8 (.iv 13), .ci .u8 (.iv 14), .ci .u8 (.iv 15), .ci .u8 (.iv 16), .ci .u8 (.iv 17), .ci .u8 (.iv 18), .ci .u8 (.iv 19), .ci .u8 (.iv 20), .ci .u8 (.iv 21), .ci .u8 (.iv 22), .cb (.bv 23), .cb (.bv 24), .cb (.bv 25), .ci .i64 (.iv 26)]]
def ks9 : List LK := [.i .i64, .b, .b, .i .u8, .i .u8, .i .u8, .i .u8, .i .u8, .i .u8, .i .i64, .i .u8, .i .u8, .i .u8, .i .u8, .i .u8, .i .u8, .i .u8, .i .u8, .i .u8, .i .u8, .i .u8, .i .u8, .i .u8, .b, .b, .b, .i .i64]
theorem args9 : argTs Try.prog Try.f9.params.toList 0 = some (ss9, ks9) := by kernel_rfl
theorem tree9 : tree Try.prog 12 (sumsIn sums16) 300 9 ss9 bare 0 ⟨ks9.map LK.rg, []⟩ = .leaf v9 := by kernel_rfl
def sums9 : List Sm := ⟨9, ss9, ks9, v9⟩ :: sums16
theorem sok9 : SumsOk Try.prog sums9 := sums_cons mixed sok16 args9 tree9 (by kernel_rfl)
def x11_9 : X := .cmp .eql (.iv 0) (.lit (.ofNat 7))
def x11_11 : X := .not (.or (.and (.cmp .geq (.iv 0) (.lit (.ofNat 0))) (.cmp .leq (.iv 0) (.lit (.ofNat 4)))) x11_9)
def x11_23 : X := .ite (.cmp .gtr (.iv 5) (.iv 3)) (.iv 5) (.iv 3)
def x11_25 : X := .ite (.cmp .gtr (.iv 6) x11_23) (.iv 6) x11_23
def x11_27 : X := .ite (.cmp .gtr (.iv 7) x11_25) (.iv 7) x11_25
def x11_42 : X := .or (.or (.or (.or (.cmp .neq (.ite x11_11 (.ite x11_11 (.lit (.ofNat 6)) (.lit (.ofNat 1))) (.lit (.ofNat 0))) (.lit (.ofNat 0))) (.cmp .geq (.ite (.cmp .gtr (.iv 8) x11_27) (.iv 8) x11_27) (.lit (.ofNat 32)))) (.cmp .geq (.iv 4) (.lit (.ofNat 5)))) (.cmp .lss (.iv 26) (.lit (.ofNat 0)))) (.cmp .gtr (.iv 26) (.lit (.ofNat 100)))
def x11_45 : X := .cmp .lss (.iv 27) (.lit (.ofNat 32768))
def x11_46 : X := .cmp .eql (.iv 0) (.lit (.ofNat 1))
def x11_47 : X := .not x11_46
def x11_48 : X := .cmp .eql (.iv 0) (.lit (.ofNat 4))
def x11_61 : X := .or x11_46 (.and x11_47 (.and (.not x11_48) (.and (.not (.cmp .eql (.iv 0) (.lit (.ofNat 2)))) (.and (.not (.cmp .eql (.iv 0) (.lit (.ofNat 3)))) (.not x11_9)))))
def x11_63 : X := .or x11_61 (.and x11_47 x11_48)
def x11_67 : X := .cmp .eql (.iv 29) (.bin .add .i64 (.iv 9) (.lit (.ofNat 1)))
def x11_71 : X := .cmp .gtr (.bin .and .u8 (.iv 28) (.lit (.ofNat 128))) (.lit (.ofNat 0))
def x11_72 : X := .bin .add .u8 (.iv 4) (.lit (.ofNat 1))
def x11_73 : X := .cmp .lss x11_72 (.lit (.ofNat 5))
def x11_74 : X := .not x11_73
def x11_77 : X := .bin .and .u16 (.bin .shr .u16 (.iv 27) (.lit (.ofNat 13))) (.lit (.ofNat 3))
def x11_78 : X := .cmp .eql x11_77 (.lit (.ofNat 0))
def x11_81 : X := .or x11_67 (.or x11_71 (.and x11_74 x11_78))
def x11_82 : X := .not x11_67
def x11_83 : X := .not x11_71
def x11_84 : X := .not x11_78
def x11_85 : X := .cmp .eql x11_77 (.lit (.ofNat 1))
def x11_90 : X := .or x11_81 (.and x11_82 (.and x11_83 (.and x11_74 (.and x11_84 x11_85))))
def x11_94 : X := .and x11_82 (.and x11_83 x11_73)
def x11_99 : X := .bin .or .u8 (.bin .andNot .u8 (.iv 3) (.bin .shl .u8 (.lit (.ofNat 1)) (.iv 4))) (.bin .shl .u8 (.bin .and .u8 (.iv 28) (.lit (.ofNat 1))) (.iv 4))
def x11_135 : X := .cmp .eql x11_77 (.lit (.ofNat 2))
def x11_140 : X := .and x11_82 (.and x11_83 (.and x11_74 (.and x11_84 (.and (.not x11_85) x11_135))))
def x11_168 : X := .cmp .gtr (.bin .and .u16 (.iv 27) (.lit (.ofNat 1))) (.lit (.ofNat 0))
def x11_169 : X := .not x11_168
def x11_170 : X := .and x11_78 x11_169
def x11_171 : X := .bin .and .u8 (.iv 11) (.lit (.ofNat 7))
def x11_172 : X := .cmp .eql x11_171 (.lit (.ofNat 0))
def x11_174 : X := .or x11_170 (.or x11_84 x11_172)
def x11_175 : X := .not x11_170
def x11_176 : X := .not x11_172
def x11_177 : X := .cmp .eql x11_171 (.lit (.ofNat 1))
def x11_181 : X := .or x11_174 (.and x11_175 (.and x11_78 (.and x11_176 x11_177)))
def x11_190 : X := .and x11_85 x11_169
def x11_217 : X := .not x11_177
def x11_218 : X := .cmp .eql x11_171 (.lit (.ofNat 2))
def x11_222 : X := .and x11_175 (.and x11_78 (.and x11_176 (.and x11_217 x11_218)))
def x11_230 : X := .not x11_218
def x11_231 : X := .cmp .eql x11_171 (.lit (.ofNat 3))
def x11_236 : X := .and x11_175 (.and x11_78 (.and x11_176 (.and x11_217 (.and x11_230 x11_231))))
def x11_245 : X := .not x11_231
def x11_246 : X := .cmp .eql x11_171 (.lit (.ofNat 4))
def x11_252 : X := .and x11_175 (.and x11_78 (.and x11_176 (.and x11_217 (.and x11_230 (.and x11_245 x11_246)))))
def x11_262 : X := .not x11_246
def x11_263 : X := .cmp .eql x11_171 (.lit (.ofNat 5))
def x11_270 : X := .and x11_175 (.and x11_78 (.and x11_176 (.and x11_217 (.and x11_230 (.and x11_245 (.and x11_262 x11_263))))))
def x11_290 : X := .and x11_175 (.and x11_78 (.and x11_176 (.and x11_217 (.and x11_230 (.and x11_245 (.and x11_262 (.and (.not x11_263) (.cmp .eql x11_171 (.lit (.ofNat 6))))))))))
def x11_313 : X := .and x11_135 x11_169
def x11_349 : X := .cmp .eql x11_77 (.lit (.ofNat 3))
def x11_375 : X := .ite x11_42 (.bv 25) (.ite x11_45 (.bv 25) (.ite x11_63 (.ite x11_61 (.bv 25) (.ite x11_181 (.ite x11_174 (.ite x11_170 (.bv 25) (.ite x11_78 (.bv 25) (.ite x11_190 (.bv 25) (.ite x11_313 (.bv 25) (.ite x11_135 (.bv 25) (.ite x11_349 (.and (.bv 25) x11_168) (.bv 25))))))) (.bv 25)) (.bv 25))) (.bv 25)))
def v11 : ST := .tup [.agg [.ci .i64 (.iv 0), .cb (.bv 1), .cb (.bv 2), .ci .u8 (.ite x11_42 (.iv 3) (.ite x11_45 (.iv 3) (.ite x11_63 (.ite x11_61 (.ite x11_46 (.ite x11_90 (.ite x11_81 (.ite x11_67 (.iv 3) (.lit (.ofNat 0))) (.lit (.ofNat 0))) (.ite x11_94 x11_99 (.lit (.ofNat 0)))) (.iv 3)) (.iv 3)) (.iv 3)))), .ci .u8 (.ite x11_42 (.iv 4) (.ite x11_45 (.iv 4) (.ite x11_63 (.ite x11_61 (.ite x11_46 (.ite x11_90 (.ite x11_81 (.ite x11_67 (.iv 4) (.lit (.ofNat 0))) (.lit (.ofNat 0))) (.ite x11_94 x11_72 (.lit (.ofNat 0)))) (.iv 4)) (.iv 4)) (.iv 4)))), .ci .u8 (.ite x11_42 (.iv 5) (.ite x11_45 (.iv 5) (.ite x11_63 (.ite x11_61 (.ite x11_46 (.ite x11_90 (.ite x11_81 (.ite x11_67 (.iv 5) (.ite x11_71 (.bin .or .u8 (.iv 5) (.lit (.ofNat 12))) x11_99)) (.iv 5)) (.iv 5)) (.iv 5)) (.iv 5)) (.iv 5)))), .ci .u8 (.ite x11_42 (.iv 6) (.ite x11_45 (.iv 6) (.ite x11_63 (.ite x11_61 (.ite x11_46 (.ite x11_90 (.ite x11_81 (.iv 6) x11_99) (.iv 6)) (.iv 6)) (.iv 6)) (.iv 6)))), .ci .u8 (.ite x11_42 (.iv 7) (.ite x11_45 (.iv 7) (.ite x11_63 (.ite x11_61 (.ite x11_46 (.ite x11_90 (.iv 7) (.ite x11_94 (.iv 7) (.ite x11_140 x11_99 (.iv 7)))) (.iv 7)) (.iv 7)) (.iv 7)))), .ci .u8 (.ite x11_42 (.iv 8) (.ite x11_45 (.iv 8) (.ite x11_63 (.ite x11_61 (.ite x11_46 (.ite x11_90 (.iv 8) (.ite x11_94 (.iv 8) (.ite x11_140 (.iv 8) x11_99))) (.iv 8)) (.iv 8)) (.iv 8)))), .ci .i64 (.ite x11_42 (.iv 9) (.ite x11_45 (.iv 9) (.ite x11_63 (.ite x11_61 (.ite x11_46 (.iv 29) (.iv 9)) (.iv 9)) (.iv 9)))), .ci .u8 (.ite x11_42 (.iv 10) (.ite x11_45 (.iv 10) (.ite x11_63 (.iv 10) (.iv 28)))), .ci .u8 (.ite x11_42 (.iv 11) (.ite x11_45 (.iv 11) (.ite x11_63 (.ite x11_61 (.iv 11) (.ite x11_181 (.ite x11_174 (.ite x11_170 (.iv 28) (.iv 11)) (.iv 11)) (.iv 11))) (.iv 11)))), .ci .u8 (.ite x11_42 (.iv 12) (.ite x11_45 (.iv 12) (.ite x11_63 (.ite x11_61 (.iv 12) (.ite x11_181 (.ite x11_174 (.ite x11_170 (.iv 12) (.ite x11_78 (.iv 12) (.ite x11_190 (.iv 28) (.iv 12)))) (.iv 12)) (.iv 12))) (.iv 12)))), .ci .u8 (.ite x11_42 (.iv 13) (.ite x11_45 (.iv 13) (.ite x11_63 (.ite x11_61 (.iv 13) (.ite x11_181 (.ite x11_174 (.ite x11_170 (.iv 13) (.ite x11_78 (.iv 28) (.iv 13))) (.iv 13)) (.iv 13))) (.iv 13)))), .ci .u8 (.ite x11_42 (.iv 14) (.ite x11_45 (.iv 14) (.ite x11_63 (.ite x11_61 (.iv 14) (.ite x11_181 (.ite x11_174 (.iv 14) (.iv 28)) (.iv 14))) (.iv 14)))), .ci .u8 (.ite x11_42 (.iv 15) (.ite x11_45 (.iv 15) (.ite x11_63 (.ite x11_61 (.iv 15) (.ite x11_181 (.iv 15) (.ite x11_222 (.iv 28) (.iv 15)))) (.iv 15)))), .ci .u8 (.ite x11_42 (.iv 16) (.ite x11_45 (.iv 16) (.ite x11_63 (.ite x11_61 (.iv 16) (.ite x11_181 (.iv 16) (.ite x11_222 (.iv 16) (.ite x11_236 (.iv 28) (.iv 16))))) (.iv 16)))), .ci .u8 (.ite x11_42 (.iv 17) (.ite x11_45 (.iv 17) (.ite x11_63 (.ite x11_61 (.iv 17) (.ite x11_181 (.iv 17) (.ite x11_222 (.iv 17) (.ite x11_236 (.iv 17) (.ite x11_252 (.iv 28) (.iv 17)))))) (.iv 17)))), .ci .u8 (.ite x11_42 (.iv 18) (.ite x11_45 (.iv 18) (.ite x11_63 (.ite x11_61 (.iv 18) (.ite x11_181 (.iv 18) (.ite x11_222 (.iv 18) (.ite x11_236 (.iv 18) (.ite x11_252 (.iv 18) (.ite x11_270 (.iv 28) (.iv 18))))))) (.iv 18)))), .ci .u8 (.ite x11_42 (.iv 19) (.ite x11_45 (.iv 19) (.ite x11_63 (.ite x11_61 (.iv 19) (.ite x11_181 (.iv 19) (.ite x11_222 (.iv 19) (.ite x11_236 (.iv 19) (.ite x11_252 (.iv 19) (.ite x11_270 (.iv 19) (.ite x11_290 (.iv 28) (.iv 19)))))))) (.iv 19)))), .ci .u8 (.ite x11_42 (.iv 20) (.ite x11_45 (.iv 20) (.ite x11_63 (.ite x11_61 (.iv 20) (.ite x11_181 (.iv 20) (.ite x11_222 (.iv 20) (.ite x11_236 (.iv 20) (.ite x11_252 (.iv 20) (.ite x11_270 (.iv 20) (.ite x11_290 (.iv 20) (.iv 28)))))))) (.iv 20)))), .ci .u8 (.ite x11_42 (.iv 21) (.ite x11_45 (.iv 21) (.ite x11_63 (.ite x11_61 (.iv 21) (.ite x11_181 (.ite x11_174 (.ite x11_170 (.iv 21) (.ite x11_78 (.iv 21) (.ite x11_190 (.iv 21) (.ite x11_313 (.iv 28) (.iv 21))))) (.iv 21)) (.iv 21))) (.iv 21)))), .ci .u8 (.ite x11_42 (.iv 22) (.ite x11_45 (.iv 22) (.ite x11_63 (.ite x11_61 (.iv 22) (.ite x11_181 (.ite x11_174 (.ite x11_170 (.iv 22) (.ite x11_78 (.iv 22) (.ite x11_190 (.iv 22) (.ite x11_313 (.iv 22) (.ite x11_135 (.lit (.ofNat 0)) (.iv 22)))))) (.iv 22)) (.iv 22))) (.iv 22)))), .cb (.ite x11_42 (.bv 23) (.ite x11_45 (.bv 23) (.ite x11_63 (.ite x11_61 (.bv 23) (.ite x11_181 (.ite x11_174 (.ite x11_170 (.bv 23) (.ite x11_78 (.bv 23) (.ite x11_190 (.bv 23) (.ite x11_313 (.bv 23) (.or x11_135 (.bv 23)))))) (.bv 23)) (.bv 23))) (.bv 23)))), .cb (.ite x11_42 (.bv 24) (.ite x11_45 (.bv 24) (.ite x11_63 (.ite x11_61 (.bv 24) (.ite x11_181 (.ite x11_174 (.ite x11_170 (.bv 24) (.ite x11_78 (.bv 24) (.ite x11_190 (.bv 24) (.ite x11_313 (.bv 24) (.ite x11_135 (.bv 24) (.ite x11_349 x11_168 (.bv 24))))))) (.bv 24)) (.bv 24))) (.bv 24)))), .cb x11_375, .ci .i64 (.iv 26)], .c (.ci .i64 (.ite x11_42 (.ite x11_42 (.lit (.ofNat 1)) (.lit (.ofNat 0))) (.lit (.ofNat 0))))]
def ss11 : List SV := [.agg [.ci .i64 (.iv 0), .cb (.bv 1), .cb (.bv 2), .ci .u8 (.iv 3), .ci .u8 (.iv 4), .ci .u8 (.iv 5), .ci .u8 (.iv 6), .ci .u8 (.iv 7), .ci .u8 (.iv 8), .ci .i64 (.iv 9), .ci .u8 (.iv 10), .ci .u8 (.iv 11), .ci .u8 (.iv 12), .ci .u8 (.iv 13), .ci .u8 (.iv 14), .ci .u8 (.iv 15), .ci .u8 (.iv 16), .ci .u8 (.iv 17), .ci .u8 (.iv 18), .ci .u8 (.iv 19), .ci .u8 (.iv 20), .ci .u8 (.iv 21), .ci .u8 (.iv 22), .cb (.bv 23), .cb (.bv 24), .cb (.bv 25), .ci .i64 (.iv 26)], .c (.ci .u16 (.iv 27)), .c (.ci .u8 (.iv 28)), .c (.ci .i64 (.iv 29))]
def ks11 : List LK := [.i .i64, .b, .b, .i .u8, .i .u8, .i .u8, .i .u8, .i .u8, .i .u8, .i .i64, .i .u8, .i .u8, .i .u8, .i .u8, .i .u8, .i .u8, .i .u8, .i .u8, .i .u8, .i .u8, .i .u8, .i .u8, .i .u8, .b, .b, .b, .i .i64, .i .u16, .i .u8, .i .i64]
theorem args11 : argTs Try.prog Try.f11.params.toList 0 = some (ss11, ks11) := by kernel_rfl
theorem tree11 : tree Try.prog 12 (sumsIn sums9) 300 11 ss11 bare 0 ⟨ks11.map LK.rg, []⟩ = .leaf v11 := by kernel_rfl
def sums11 : List Sm := ⟨11, ss11, ks11, v11⟩ :: sums9
theorem sok11 : SumsOk Try.prog sums11 := sums_cons mixed sok9 args11 tree11 (by kernel_rfl)
def x14_30 : X := .not (.or (.and (.cmp .geq (.iv 0) (.lit (.ofNat 0))) (.cmp .leq (.iv 0) (.lit (.ofNat 4)))) (.cmp .eql (.iv 0) (.lit (.ofNat 7))))
def x14_37 : X := .ite (.cmp .gtr (.iv 5) (.iv 3)) (.iv 5) (.iv 3)
def x14_39 : X := .ite (.cmp .gtr (.iv 6) x14_37) (.iv 6) x14_37
def x14_41 : X := .ite (.cmp .gtr (.iv 7) x14_39) (.iv 7) x14_39
def x14_55 : X := .or (.or (.or (.or (.cmp .neq (.ite x14_30 (.ite x14_30 (.lit (.ofNat 6)) (.lit (.ofNat 1))) (.lit (.ofNat 0))) (.lit (.ofNat 0))) (.cmp .geq (.ite (.cmp .gtr (.iv 8) x14_41) (.iv 8) x14_41) (.lit (.ofNat 32)))) (.cmp .geq (.iv 4) (.lit (.ofNat 5)))) (.cmp .lss (.iv 26) (.lit (.ofNat 0)))) (.cmp .gtr (.iv 26) (.lit (.ofNat 100)))
def x14_56 : X := .cmp .neq (.iv 0) (.lit (.ofNat 4))
def x14_60 : X := .or x14_55 (.or x14_56 (.not (.bv 27)))
def x14_63 : X := .cmp .geq (.iv 26) (.lit (.ofNat 8))
def x14_68 : X := .ite (.or (.cmp .eql (.iv 22) (.lit (.ofNat 0))) (.bv 23)) (.iv 21) (.bin .sub .u8 (.iv 22) (.lit (.ofNat 1)))
def x14_81 : X := .bin .add .i64 (.iv 26) (.lit (.ofNat 1))
def v14 : ST := .tup [.agg [.ci .i64 (.iv 0), .cb (.bv 1), .cb (.bv 2), .ci .u8 (.iv 3), .ci .u8 (.iv 4), .ci .u8 (.iv 5), .ci .u8 (.iv 6), .ci .u8 (.iv 7), .ci .u8 (.iv 8), .ci .i64 (.iv 9), .ci .u8 (.iv 10), .ci .u8 (.iv 11), .ci .u8 (.iv 12), .ci .u8 (.iv 13), .ci .u8 (.iv 14), .ci .u8 (.iv 15), .ci .u8 (.iv 16), .ci .u8 (.iv 17), .ci .u8 (.iv 18), .ci .u8 (.iv 19), .ci .u8 (.iv 20), .ci .u8 (.iv 21), .ci .u8 (.ite x14_60 (.iv 22) (.ite x14_63 x14_68 (.iv 22))), .cb (.ite x14_60 (.bv 23) (.and (.not x14_63) (.bv 23))), .cb (.bv 24), .cb (.ite x14_60 (.bv 25) (.ite x14_63 (.or (.bv 25) (.and (.cmp .eql x14_68 (.lit (.ofNat 0))) (.bv 24))) (.bv 25))), .ci .i64 (.ite x14_60 (.ite x14_55 (.iv 26) (.ite x14_56 (.iv 26) (.ite (.cmp .lss (.lit (.ofNat 100)) x14_81) (.lit (.ofNat 100)) x14_81))) (.lit (.ofNat 0)))], .c (.ci .i64 (.ite x14_60 (.ite x14_55 (.lit (.ofNat 1)) (.lit (.ofNat 0))) (.lit (.ofNat 0))))]
def ss14 : List SV := [.agg [.ci .i64 (.iv 0), .cb (.bv 1), .cb (.bv 2), .ci .u8 (.iv 3), .ci .u8 (.iv 4), .ci .u8 (.iv 5), .ci .u8 (.iv 6), .ci .u8 (.iv 7), .ci .u8 (.iv 8), .ci .i64 (.iv 9), .ci .u8 (.iv 10), .ci .u8 (.iv 11), .ci .u8 (.iv 12), .ci .u8 (.iv 13), .ci .u8 (.iv 14), .ci .u8 (.iv 15), .ci .u8 (.iv 16), .ci .u8 (.iv 17), .ci .u8 (.iv 18), .ci .u8 (.iv 19), .ci .u8 (.iv 20), .ci .u8 (.iv 21), .ci .u8 (.iv 22), .cb (.bv 23), .cb (.bv 24), .cb (.bv 25), .ci .i64 (.iv 26)], .c (.cb (.bv 27))]
def ks14 : List LK := [.i .i64, .b, .b, .i .u8, .i .u8, .i .u8, .i .u8, .i .u8, .i .u8, .i .i64, .i .u8, .i .u8, .i .u8, .i .u8, .i .u8, .i .u8, .i .u8, .i .u8, .i .u8, .i .u8, .i .u8, .i .u8, .i .u8, .b, .b, .b, .i .i64, .b]
theorem args14 : argTs Try.prog Try.f14.params.toList 0 = some (ss14, ks14) := by kernel_rfl
theorem tree14 : tree Try.prog 12 (sumsIn sums11) 300 14 ss14 bare 0 ⟨ks14.map LK.rg, []⟩ = .leaf v14 := by kernel_rfl
def sums14 : List Sm := ⟨14, ss14, ks14, v14⟩ :: sums11
theorem sok14 : SumsOk Try.prog sums14 := sums_cons mixed sok11 args14 tree14 (by kernel_rfl)
def v25 : ST := .v (.c (.cb (.or (.or (.or (.or (.or (.cmp .eql (.iv 0) (.lit (.ofNat 0))) (.cmp .eql (.iv 0) (.lit (.ofNat 1)))) (.cmp .eql (.iv 0) (.lit (.ofNat 2)))) (.cmp .eql (.iv 0) (.lit (.ofNat 3)))) (.cmp .eql (.iv 0) (.lit (.ofNat 4)))) (.cmp .eql (.iv 0) (.lit (.ofNat 7))))))
def ss25 : List SV := [.c (.ci .i64 (.iv 0))]
def ks25 : List LK := [.i .i64]
theorem args25 : argTs Try.prog Try.f25.params.toList 0 = some (ss25, ks25) := by kernel_rfl
theorem tree25 : tree Try.prog 12 (sumsIn sums14) 300 25 ss25 bare 0 ⟨ks25.map LK.rg, []⟩ = .leaf v25 := by kernel_rfl
def sums25 : List Sm := ⟨25, ss25, ks25, v25⟩ :: sums14
theorem sok25 : SumsOk Try.prog sums25 := sums_cons mixed sok14 args25 tree25 (by kernel_rfl)
def x17_40 : X := .and (.and (.and (.and (.and (.and (.and (.or (.or (.or (.or (.or (.cmp .eql (.iv 0) (.lit (.ofNat 0))) (.cmp .eql (.iv 0) (.lit (.ofNat 1)))) (.cmp .eql (.iv 0) (.lit (.ofNat 2)))) (.cmp .eql (.iv 0) (.lit (.ofNat 3)))) (.cmp .eql (.iv 0) (.lit (.ofNat 4)))) (.cmp .eql (.iv 0) (.lit (.ofNat 7)))) (.cmp .lss (.iv 3) (.lit (.ofNat 32)))) (.cmp .lss (.iv 4) (.lit (.ofNat 5)))) (.cmp .lss (.iv 5) (.lit (.ofNat 32)))) (.cmp .lss (.iv 6) (.lit (.ofNat 32)))) (.cmp .lss (.iv 7) (.lit (.ofNat 32)))) (.cmp .lss (.iv 8) (.lit (.ofNat 32)))) (.cmp .leq (.lit (.ofNat 0)) (.iv 26))
def v17 : ST := .v (.c (.cb (.and x17_40 (.cmp .leq (.iv 26) (.lit (.ofNat 100))))))
def ss17 : List SV := [.agg [.ci .i64 (.iv 0), .cb (.bv 1), .cb (.bv 2), .ci .u8 (.iv 3), .ci .u8 (.iv 4), .ci .u8 (.iv 5), .ci .u8 (.iv 6), .ci .u8 (.iv 7), .ci .u8 (.iv 8), .ci .i64 (.iv 9), .ci .u8 (.iv 10), .ci .u8 (.iv 11), .ci .u8 (.iv 12), .ci .u8 (.iv 13), .ci .u8 (.iv 14), .ci .u8 (.iv 15), .ci .u8 (.iv 16), .ci .u8 (.iv 17), .ci .u8 (.iv 18), .ci .u8 (.iv 19), .ci .u8 (.iv 20), .ci .u8 (.iv 21), .ci .u8 (.iv 22), .cb (.bv 23), .cb (.bv 24), .cb (.bv 25), .ci .i64 (.iv 26)]]
def ks17 : List LK := [.i .i64, .b, .b, .i .u8, .i .u8, .i .u8, .i .u8, .i .u8, .i .u8, .i .i64, .i .u8, .i .u8, .i .u8, .i .u8, .i .u8, .i .u8, .i .u8, .i .u8, .i .u8, .i .u8, .i .u8, .i .u8, .i .u8, .b, .b, .b, .i .i64]
theorem args17 : argTs Try.prog Try.f17.params.toList 0 = some (ss17, ks17) := by kernel_rfl
theorem tree17 : tree Try.prog 12 (sumsIn sums25) 300 17 ss17 bare 0 ⟨ks17.map LK.rg, []⟩ = .leaf v17 := by kernel_rfl
def sums17 : List Sm := ⟨17, ss17, ks17, v17⟩ :: sums25
theorem sok17 : SumsOk Try.prog sums17 := sums_cons mixed sok25 args17 tree17 (by kernel_rfl)
def v13 : ST := .v (.agg [.ci .i64 (.iv 0), .cb (.bl false), .cb (.bl false), .ci .u8 (.lit (.ofNat 0)), .ci .u8 (.lit (.ofNat 0)), .ci .u8 (.lit (.ofNat 12)), .ci .u8 (.lit (.ofNat 0)), .ci .u8 (.lit (.ofNat 0)), .ci .u8 (.lit (.ofNat 0)), .ci .i64 (.lit (.negSucc 1)), .ci .u8 (.lit (.ofNat 0)), .ci .u8 (.lit (.ofNat 0)), .ci .u8 (.lit (.ofNat 0)), .ci .u8 (.lit (.ofNat 0)), .ci .u8 (.lit (.ofNat 0)), .ci .u8 (.lit (.ofNat 0)), .ci .u8 (.lit (.ofNat 0)), .ci .u8 (.lit (.ofNat 0)), .ci .u8 (.lit (.ofNat 0)), .ci .u8 (.lit (.ofNat 0)), .ci .u8 (.lit (.ofNat 0)), .ci .u8 (.lit (.ofNat 0)), .ci .u8 (.lit (.ofNat 0)), .cb (.bl false), .cb (.bl false), .cb (.bl false), .ci .i64 (.lit (.ofNat 0))])
def ss13 : List SV := [.c (.ci .i64 (.iv 0))]
def ks13 : List LK := [.i .i64]
theorem args13 : argTs Try.prog Try.f13.params.toList 0 = some (ss13, ks13) := by kernel_rfl
theorem tree13 : tree Try.prog 12 (sumsIn sums17) 300 13 ss13 bare 0 ⟨ks13.map LK.rg, []⟩ = .leaf v13 := by kernel_rfl
def sums13 : List Sm := ⟨13, ss13, ks13, v13⟩ :: sums17
theorem sok13 : SumsOk Try.prog sums13 := sums_cons mixed sok17 args13 tree13 (by kernel_rfl)
def v10 : ST := .v (.c (.cb (.bl true)))
def ss10 : List SV := []
def ks10 : List LK := []
theorem args10 : argTs Try.prog Try.f10.params.toList 0 = some (ss10, ks10) := by kernel_rfl
theorem tree10 : tree Try.prog 12 (sumsIn sums13) 300 10 ss10 bare 0 ⟨ks10.map LK.rg, []⟩ = .leaf v10 := by kernel_rfl
def sums10 : List Sm := ⟨10, ss10, ks10, v10⟩ :: sums13
theorem sok10 : SumsOk Try.prog sums10 := sums_cons mixed sok13 args10 tree10 (by kernel_rfl)
def x19_23 : X := .cmp .neq (.iv 0) (.lit (.ofNat 4))
def x19_26 : X := .not (.bv 27)
def x19_29 : X := .cmp .geq (.iv 26) (.lit (.ofNat 8))
def x19_36 : X := .ite (.or (.cmp .eql (.iv 22) (.lit (.ofNat 0))) (.bv 23)) (.iv 21) (.bin .sub .u8 (.iv 22) (.lit (.ofNat 1)))
def v19 : ST := .v (.agg [.ci .i64 (.iv 0), .cb (.bv 1), .cb (.bv 2), .ci .u8 (.iv 3), .ci .u8 (.iv 4), .ci .u8 (.iv 5), .ci .u8 (.iv 6), .ci .u8 (.iv 7), .ci .u8 (.iv 8), .ci .i64 (.iv 9), .ci .u8 (.iv 10), .ci .u8 (.iv 11), .ci .u8 (.iv 12), .ci .u8 (.iv 13), .ci .u8 (.iv 14), .ci .u8 (.iv 15), .ci .u8 (.iv 16), .ci .u8 (.iv 17), .ci .u8 (.iv 18), .ci .u8 (.iv 19), .ci .u8 (.iv 20), .ci .u8 (.iv 21), .ci .u8 (.ite x19_23 (.iv 22) (.ite x19_26 (.iv 22) (.ite x19_29 x19_36 (.iv 22)))), .cb (.ite x19_23 (.bv 23) (.ite x19_26 (.bv 23) (.and (.not x19_29) (.bv 23)))), .cb (.bv 24), .cb (.ite x19_23 (.bv 25) (.ite x19_26 (.bv 25) (.ite x19_29 (.or (.and (.cmp .eql x19_36 (.lit (.ofNat 0))) (.bv 24)) (.bv 25)) (.bv 25)))), .ci .i64 (.ite x19_23 (.iv 26) (.ite x19_26 (.ite (.cmp .lss (.iv 26) (.lit (.ofNat 100))) (.bin .add .i64 (.iv 26) (.lit (.ofNat 1))) (.iv 26)) (.lit (.ofNat 0))))])
def ss19 : List SV := [.agg [.ci .i64 (.iv 0), .cb (.bv 1), .cb (.bv 2), .ci .u8 (.iv 3), .ci .u8 (.iv 4), .ci .u8 (.iv 5), .ci .u8 (.iv 6), .ci .u8 (.iv 7), .ci .u8 (.iv 8), .ci .i64 (.iv 9), .ci .u8 (.iv 10), .ci .u8 (.iv 11), .ci .u8 (.iv 12), .ci .u8 (.iv 13), .ci .u8 (.iv 14), .ci .u8 (.iv 15), .ci .u8 (.iv 16), .ci .u8 (.iv 17), .ci .u8 (.iv 18), .ci .u8 (.iv 19), .ci .u8 (.iv 20), .ci .u8 (.iv 21), .ci .u8 (.iv 22), .cb (.bv 23), .cb (.bv 24), .cb (.bv 25), .ci .i64 (.iv 26)], .c (.cb (.bv 27))]
def ks19 : List LK := [.i .i64, .b, .b, .i .u8, .i .u8, .i .u8, .i .u8, .i .u8, .i .u8, .i .i64, .i .u8, .i .u8, .i .u8, .i .u8, .i .u8, .i .u8, .i .u8, .i .u8, .i .u8, .i .u8, .i .u8, .i .u8, .i .u8, .b, .b, .b, .i .i64, .b]
theorem args19 : argTs Try.prog Try.f19.params.toList 0 = some (ss19, ks19) := by kernel_rfl
theorem tree19 : tree Try.prog 12 (sumsIn sums10) 300 19 ss19 bare 0 ⟨ks19.map LK.rg, []⟩ = .leaf v19 := by kernel_rfl
def sums19 : List Sm := ⟨19, ss19, ks19, v19⟩ :: sums10
theorem sok19 : SumsOk Try.prog sums19 := sums_cons mixed sok10 args19 tree19 (by kernel_rfl)
def x12_2 : X := .cmp .eql (.iv 0) (.lit (.ofNat 1))
def x12_4 : X := .cmp .eql (.iv 0) (.lit (.ofNat 7))
def x12_13 : X := .bin .and .u8 (.iv 5) (.lit (.ofNat 3))
def v12 : ST := .v (.c (.ci .i64 (.ite (.or x12_2 (.or x12_4 (.or (.bv 2) (.cmp .eql (.iv 0) (.lit (.ofNat 4)))))) (.ite x12_2 (.ite (.cmp .eql x12_13 (.lit (.ofNat 0))) (.lit (.ofNat 2)) (.ite (.cmp .eql x12_13 (.lit (.ofNat 1))) (.lit (.ofNat 3)) (.ite (.cmp .eql x12_13 (.lit (.ofNat 2))) (.lit (.ofNat 1)) (.lit (.ofNat 0))))) (.ite x12_4 (.bin .add .i64 (.lit (.ofNat 2)) (.bin .and .u8 (.bin .shr .u8 (.iv 10) (.lit (.ofNat 4))) (.lit (.ofNat 1)))) (.ite (.bv 2) (.lit (.ofNat 4)) (.bin .sub .i64 (.lit (.ofNat 1)) (.bin .and .u8 (.iv 12) (.lit (.ofNat 1))))))) (.ite (.bv 1) (.lit (.ofNat 1)) (.lit (.ofNat 0))))))
def ss12 : List SV := [.agg [.ci .i64 (.iv 0), .cb (.bv 1), .cb (.bv 2), .ci .u8 (.iv 3), .ci .u8 (.iv 4), .ci .u8 (.iv 5), .ci .u8 (.iv 6), .ci .u8 (.iv 7), .ci .u8 (.iv 8), .ci .i64 (.iv 9), .ci .u8 (.iv 10), .ci .u8 (.iv 11), .ci .u8 (.iv 12), .ci .u8 (.iv 13), .ci .u8 (.iv 14), .ci .u8 (.iv 15), .ci .u8 (.iv 16), .ci .u8 (.iv 17), .ci .u8 (.iv 18), .ci .u8 (.iv 19), .ci .u8 (.iv 20), .ci .u8 (.iv 21), .ci .u8 (.iv 22), .cb (.bv 23), .cb (.bv 24), .cb (.bv 25), .ci .i64 (.iv 26)]]
def ks12 : List LK := [.i .i64, .b, .b, .i .u8, .i .u8, .i .u8, .i .u8, .i .u8, .i .u8, .i .i64, .i .u8, .i .u8, .i .u8, .i .u8, .i .u8, .i .u8, .i .u8, .i .u8, .i .u8, .i .u8, .i .u8, .i .u8, .i .u8, .b, .b, .b, .i .i64]
theorem args12 : argTs Try.prog Try.f12.params.toList 0 = some (ss12, ks12) := by kernel_rfl
theorem tree12 : tree Try.prog 12 (sumsIn sums19) 300 12 ss12 bare 0 ⟨ks12.map LK.rg, []⟩ = .leaf v12 := by kernel_rfl
def sums12 : List Sm := ⟨12, ss12, ks12, v12⟩ :: sums19
theorem sok12 : SumsOk Try.prog sums12 := sums_cons mixed sok19 args12 tree12 (by kernel_rfl)
def x20_5 : X := .bin .rem .u8 (.iv 5) (.lit (.ofNat 4))
def x20_7 : X := .cmp .eql x20_5 (.lit (.ofNat 0))
def x20_8 : X := .cmp .eql x20_5 (.lit (.ofNat 1))
def x20_10 : X := .cmp .eql x20_5 (.lit (.ofNat 2))
def x20_12 : X := .or x20_7 (.or x20_8 x20_10)
def x20_30 : X := .cmp .eql (.bin .rem .u8 (.bin .quo .u8 (.iv 10) (.lit (.ofNat 16))) (.lit (.ofNat 2))) (.lit (.ofNat 1))
def x20_39 : X := .cmp .eql (.bin .rem .u8 (.iv 12) (.lit (.ofNat 2))) (.lit (.ofNat 1))
def v20 : ST := .v (.c (.ci .i64 (.ite (.and (.cmp .eql (.iv 0) (.lit (.ofNat 1))) (.or x20_12 (.and (.not x20_7) (.and (.not x20_8) (.not x20_10))))) (.ite x20_12 (.ite x20_7 (.lit (.ofNat 2)) (.ite x20_8 (.lit (.ofNat 3)) (.lit (.ofNat 1)))) (.lit (.ofNat 0))) (.ite (.and (.cmp .eql (.iv 0) (.lit (.ofNat 7))) (.or x20_30 (.not x20_30))) (.ite x20_30 (.lit (.ofNat 3)) (.lit (.ofNat 2))) (.ite (.bv 2) (.lit (.ofNat 4)) (.ite (.and (.cmp .eql (.iv 0) (.lit (.ofNat 4))) (.or x20_39 (.not x20_39))) (.ite x20_39 (.lit (.ofNat 0)) (.lit (.ofNat 1))) (.ite (.bv 1) (.lit (.ofNat 1)) (.lit (.ofNat 0)))))))))
def ss20 : List SV := [.agg [.ci .i64 (.iv 0), .cb (.bv 1), .cb (.bv 2), .ci .u8 (.iv 3), .ci .u8 (.iv 4), .ci .u8 (.iv 5), .ci .u8 (.iv 6), .ci .u8 (.iv 7), .ci .u8 (.iv 8), .ci .i64 (.iv 9), .ci .u8 (.iv 10), .ci .u8 (.iv 11), .ci .u8 (.iv 12), .ci .u8 (.iv 13), .ci .u8 (.iv 14), .ci .u8 (.iv 15), .ci .u8 (.iv 16), .ci .u8 (.iv 17), .ci .u8 (.iv 18), .ci .u8 (.iv 19), .ci .u8 (.iv 20), .ci .u8 (.iv 21), .ci .u8 (.iv 22), .cb (.bv 23), .cb (.bv 24), .cb (.bv 25), .ci .i64 (.iv 26)]]
def ks20 : List LK := [.i .i64, .b, .b, .i .u8, .i .u8, .i .u8, .i .u8, .i .u8, .i .u8, .i .i64, .i .u8, .i .u8, .i .u8, .i .u8, .i .u8, .i .u8, .i .u8, .i .u8, .i .u8, .i .u8, .i .u8, .i .u8, .i .u8, .b, .b, .b, .i .i64]
theorem args20 : argTs Try.prog Try.f20.params.toList 0 = some (ss20, ks20) := by kernel_rfl
theorem tree20 : tree Try.prog 12 (sumsIn sums12) 300 20 ss20 bare 0 ⟨ks20.map LK.rg, []⟩ = .leaf v20 := by kernel_rfl
def sums20 : List Sm := ⟨20, ss20, ks20, v20⟩ :: sums12
theorem sok20 : SumsOk Try.prog sums20 := sums_cons mixed sok12 args20 tree20 (by kernel_rfl)
def ss7 : List SV := [.agg [.ci .i64 (.iv 0), .ci .i64 (.iv 1), .ci .i64 (.iv 2), .ci .i64 (.iv 3), .cb (.bv 4), .cb (.bv 5), .cb (.bv 6), .cb (.bv 7), .cb (.bv 8), .ci .i64 (.iv 9), .cb (.bv 10), .cb (.bv 11), .ci .u8 (.iv 12), .ci .u8 (.iv 13), .ci .u8 (.iv 14), .ci .u8 (.iv 15), .ci .u8 (.iv 16), .ci .u8 (.iv 17), .ci .i64 (.iv 18), .ci .u8 (.iv 19), .ci .u8 (.iv 20), .ci .u8 (.iv 21), .ci .u8 (.iv 22), .ci .u8 (.iv 23), .ci .u8 (.iv 24), .ci .u8 (.iv 25), .ci .u8 (.iv 26), .ci .u8 (.iv 27), .ci .u8 (.iv 28), .ci .u8 (.iv 29), .ci .u8 (.iv 30), .ci .u8 (.iv 31), .cb (.bv 32), .cb (.bv 33), .cb (.bv 34), .ci .i64 (.iv 35), .ci .u16 (.iv 36), .ci .u8 (.iv 37), .ci .i64 (.iv 38), .cb (.bv 39)]]
def ks7 : List LK := [.i .i64, .i .i64, .i .i64, .i .i64, .b, .b, .b, .b, .b, .i .i64, .b, .b, .i .u8, .i .u8, .i .u8, .i .u8, .i .u8, .i .u8, .i .i64, .i .u8, .i .u8, .i .u8, .i .u8, .i .u8, .i .u8, .i .u8, .i .u8, .i .u8, .i .u8, .i .u8, .i .u8, .i .u8, .b, .b, .b, .i .i64, .i .u16, .i .u8, .i .i64, .b]
theorem args7 : argTs Try.prog Try.f7.params.toList 0 = some (ss7, ks7) := by kernel_rfl
def T (K : Known) : Prop := (tree Try.prog 0 (sumsIn sums20) 300 7 ss7 bare 6 K).prove 300 1000 K = true
def V (K : Known) : Prop := X.prove 20 60 K (.bl false) = true
def c_0 : X := .cmp .neq (.ite (.or (.not (.or (.and (.cmp .geq (.iv 0) (.lit (.ofNat 0))) (.cmp .leq (.iv 0) (.lit (.ofNat 4)))) (.cmp .eql (.iv 0) (.lit (.ofNat 7))))) (.or (.or (.or (.not (.and (.cmp .geq (.ite (.cmp .eql (.bin .quo .i64 (.iv 2) (.lit (.ofNat 16384))) (.lit (.ofNat 1))) (.lit (.ofNat 0)) (.ite (.and (.not (.cmp .eql (.bin .quo .i64 (.iv 2) (.lit (.ofNat 16384))) (.lit (.ofNat 1)))) (.cmp .eql (.bin .quo .i64 (.iv 2) (.lit (.ofNat 16384))) (.lit (.ofNat 2)))) (.lit (.ofNat 1)) (.ite (.and (.not (.cmp .eql (.bin .quo .i64 (.iv 2) (.lit (.ofNat 16384))) (.lit (.ofNat 1)))) (.and (.not (.cmp .eql (.bin .quo .i64 (.iv 2) (.lit (.ofNat 16384))) (.lit (.ofNat 2)))) (.cmp .eql (.bin .quo .i64 (.iv 2) (.lit (.ofNat 16384))) (.lit (.ofNat 4))))) (.lit (.ofNat 2)) (.ite (.and (.not (.cmp .eql (.bin .quo .i64 (.iv 2) (.lit (.ofNat 16384))) (.lit (.ofNat 1)))) (.and (.not (.cmp .eql (.bin .quo .i64 (.iv 2) (.lit (.ofNat 16384))) (.lit (.ofNat 2)))) (.and (.not (.cmp .eql (.bin .quo .i64 (.iv 2) (.lit (.ofNat 16384))) (.lit (.ofNat 4)))) (.cmp .eql (.bin .quo .i64 (.iv 2) (.lit (.ofNat 16384))) (.lit (.ofNat 8)))))) (.lit (.ofNat 3)) (.ite (.and (.not (.cmp .eql (.bin .quo .i64 (.iv 2) (.lit (.ofNat 16384))) (.lit (.ofNat 1)))) (.and (.not (.cmp .eql (.bin .quo .i64 (.iv 2) (.lit (.ofNat 16384))) (.lit (.ofNat 2)))) (.and (.not (.cmp .eql (.bin .quo .i64 (.iv 2) (.lit (.ofNat 16384))) (.lit (.ofNat 4)))) (.and (.not (.cmp .eql (.bin .quo .i64 (.iv 2) (.lit (.ofNat 16384))) (.lit (.ofNat 8)))) (.cmp .eql (.bin .quo .i64 (.iv 2) (.lit (.ofNat 16384))) (.lit (.ofNat 16))))))) (.lit (.ofNat 4)) (.ite (.and (.not (.cmp .eql (.bin .quo .i64 (.iv 2) (.lit (.ofNat 16384))) (.lit (.ofNat 1)))) (.and (.not (.cmp .eql (.bin .quo .i64 (.iv 2) (.lit (.ofNat 16384))) (.lit (.ofNat 2)))) (.and (.not (.cmp .eql (.bin .quo .i64 (.iv 2) (.lit (.ofNat 16384))) (.lit (.ofNat 4)))) (.and (.not (.cmp .eql (.bin .quo .i64 (.iv 2) (.lit (.ofNat 16384))) (.lit (.ofNat 8)))) (.and (.not (.cmp .eql (.bin .quo .i64 (.iv 2) (.lit (.ofNat 16384))) (.lit (.ofNat 16)))) (.cmp .eql (.bin .quo .i64 (.iv 2) (.lit (.ofNat 16384))) (.lit (.ofNat 32)))))))) (.lit (.ofNat 5)) (.lit (.negSucc 0)))))))) (.lit (.ofNat 0))) (.cmp .eql (.bin .rem .i64 (.iv 2) (.lit (.ofNat 16384))) (.lit (.ofNat 0))))) (.not (.and (.cmp .geq (.ite (.cmp .eql (.bin .quo .i64 (.iv 3) (.lit (.ofNat 8192))) (.lit (.ofNat 1))) (.lit (.ofNat 0)) (.ite (.and (.not (.cmp .eql (.bin .quo .i64 (.iv 3) (.lit (.ofNat 8192))) (.lit (.ofNat 1)))) (.cmp .eql (.bin .quo .i64 (.iv 3) (.lit (.ofNat 8192))) (.lit (.ofNat 2)))) (.lit (.ofNat 1)) (.ite (.and (.not (.cmp .eql (.bin .quo .i64 (.iv 3) (.lit (.ofNat 8192))) (.lit (.ofNat 1)))) (.and (.not (.cmp .eql (.bin .quo .i64 (.iv 3) (.lit (.ofNat 8192))) (.lit (.ofNat 2)))) (.cmp .eql (.bin .quo .i64 (.iv 3) (.lit (.ofNat 8192))) (.lit (.ofNat 4))))) (.lit (.ofNat 2)) (.ite (.and (.not (.cmp .eql (.bin .quo .i64 (.iv 3) (.lit (.ofNat 8192))) (.lit (.ofNat 1)))) (.and (.not (.cmp .eql (.bin .quo .i64 (.iv 3) (.lit (.ofNat 8192))) (.lit (.ofNat 2)))) (.and (.not (.cmp .eql (.bin .quo .i64 (.iv 3) (.lit (.ofNat 8192))) (.lit (.ofNat 4)))) (.cmp .eql (.bin .quo .i64 (.iv 3) (.lit (.ofNat 8192))) (.lit (.ofNat 8)))))) (.lit (.ofNat 3)) (.ite (.and (.not (.cmp .eql (.bin .quo .i64 (.iv 3) (.lit (.ofNat 8192))) (.lit (.ofNat 1)))) (.and (.not (.cmp .eql (.bin .quo .i64 (.iv 3) (.lit (.ofNat 8192))) (.lit (.ofNat 2)))) (.and (.not (.cmp .eql (.bin .quo .i64 (.iv 3) (.lit (.ofNat 8192))) (.lit (.ofNat 4)))) (.and (.not (.cmp .eql (.bin .quo .i64 (.iv 3) (.lit (.ofNat 8192))) (.lit (.ofNat 8)))) (.cmp .eql (.bin .quo .i64 (.iv 3) (.lit (.ofNat 8192))) (.lit (.ofNat 16))))))) (.lit (.ofNat 4)) (.ite (.and (.not (.cmp .eql (.bin .quo .i64 (.iv 3) (.lit (.ofNat 8192))) (.lit (.ofNat 1)))) (.and (.not (.cmp .eql (.bin .quo .i64 (.iv 3) (.lit (.ofNat 8192))) (.lit (.ofNat 2)))) (.and (.not (.cmp .eql (.bin .quo .i64 (.iv 3) (.lit (.ofNat 8192))) (.lit (.ofNat 4)))) (.and (.not (.cmp .eql (.bin .quo .i64 (.iv 3) (.lit (.ofNat 8192))) (.lit (.ofNat 8)))) (.and (.not (.cmp .eql (.bin .quo .i64 (.iv 3) (.lit (.ofNat 8192))) (.lit (.ofNat 16)))) (.cmp .eql (.bin .quo .i64 (.iv 3) (.lit (.ofNat 8192))) (.lit (.ofNat 32)))))))) (.lit (.ofNat 5)) (.lit (.negSucc 0)))))))) (.lit (.ofNat 0))) (.cmp .eql (.bin .rem .i64 (.iv 3) (.lit (.ofNat 8192))) (.lit (.ofNat 0)))))) (.and (.bv 8) (.cmp .neq (.iv 3) (.lit (.ofNat 8192))))) (.or (.or (.cmp .lss (.iv 1) (.lit (.ofNat 0))) (.cmp .gtr (.iv 1) (.lit (.ofNat 15)))) (.and (.not (.bv 7)) (.cmp .neq (.iv 1) (.lit (.ofNat 0))))))) (.ite (.not (.or (.and (.cmp .geq (.iv 0) (.lit (.ofNat 0))) (.cmp .leq (.iv 0) (.lit (.ofNat 4)))) (.cmp .eql (.iv 0) (.lit (.ofNat 7))))) (.lit (.ofNat 6)) (.ite (.or (.or (.not (.and (.cmp .geq (.ite (.cmp .eql (.bin .quo .i64 (.iv 2) (.lit (.ofNat 16384))) (.lit (.ofNat 1))) (.lit (.ofNat 0)) (.ite (.and (.not (.cmp .eql (.bin .quo .i64 (.iv 2) (.lit (.ofNat 16384))) (.lit (.ofNat 1)))) (.cmp .eql (.bin .quo .i64 (.iv 2) (.lit (.ofNat 16384))) (.lit (.ofNat 2)))) (.lit (.ofNat 1)) (.ite (.and (.not (.cmp .eql (.bin .quo .i64 (.iv 2) (.lit (.ofNat 16384))) (.lit (.ofNat 1)))) (.and (.not (.cmp .eql (.bin .quo .i64 (.iv 2) (.lit (.ofNat 16384))) (.lit (.ofNat 2)))) (.cmp .eql (.bin .quo .i64 (.iv 2) (.lit (.ofNat 16384))) (.lit (.ofNat 4))))) (.lit (.ofNat 2)) (.ite (.and (.not (.cmp .eql (.bin .quo .i64 (.iv 2) (.lit (.ofNat 16384))) (.lit (.ofNat 1)))) (.and (.not (.cmp .eql (.bin .quo .i64 (.iv 2) (.lit (.ofNat 16384))) (.lit (.ofNat 2)))) (.and (.not (.cmp .eql (.bin .quo .i64 (.iv 2) (.lit (.ofNat 16384))) (.lit (.ofNat 4)))) (.cmp .eql (.bin .quo .i64 (.iv 2) (.lit (.ofNat 16384))) (.lit (.ofNat 8)))))) (.lit (.ofNat 3)) (.ite (.and (.not (.cmp .eql (.bin .quo .i64 (.iv 2) (.lit (.ofNat 16384))) (.lit (.ofNat 1)))) (.and (.not (.cmp .eql (.bin .quo .i64 (.iv 2) (.lit (.ofNat 16384))) (.lit (.ofNat 2)))) (.and (.not (.cmp .eql (.bin .quo .i64 (.iv 2) (.lit (.ofNat 16384))) (.lit (.ofNat 4)))) (.and (.not (.cmp .eql (.bin .quo .i64 (.iv 2) (.lit (.ofNat 16384))) (.lit (.ofNat 8)))) (.cmp .eql (.bin .quo .i64 (.iv 2) (.lit (.ofNat 16384))) (.lit (.ofNat 16))))))) (.lit (.ofNat 4)) (.ite (.and (.not (.cmp .eql (.bin .quo .i64 (.iv 2) (.lit (.ofNat 16384))) (.lit (.ofNat 1)))) (.and (.not (.cmp .eql (.bin .quo .i64 (.iv 2) (.lit (.ofNat 16384))) (.lit (.ofNat 2)))) (.and (.not (.cmp .eql (.bin .quo .i64 (.iv 2) (.lit (.ofNat 16384))) (.lit (.ofNat 4)))) (.and (.not (.cmp .eql (.bin .quo .i64 (.iv 2) (.lit (.ofNat 16384))) (.lit (.ofNat 8)))) (.and (.not (.cmp .eql (.bin .quo .i64 (.iv 2) (.lit (.ofNat 16384))) (.lit (.ofNat 16)))) (.cmp .eql (.bin .quo .i64 (.iv 2) (.lit (.ofNat 16384))) (.lit (.ofNat 32)))))))) (.lit (.ofNat 5)) (.lit (.negSucc 0)))))))) (.lit (.ofNat 0))) (.cmp .eql (.bin .rem .i64 (.iv 2) (.lit (.ofNat 16384))) (.lit (.ofNat 0))))) (.not (.and (.cmp .geq (.ite (.cmp .eql (.bin .quo .i64 (.iv 3) (.lit (.ofNat 8192))) (.lit (.ofNat 1))) (.lit (.ofNat 0)) (.ite (.and (.not (.cmp .eql (.bin .quo .i64 (.iv 3) (.lit (.ofNat 8192))) (.lit (.ofNat 1)))) (.cmp .eql (.bin .quo .i64 (.iv 3) (.lit (.ofNat 8192))) (.lit (.ofNat 2)))) (.lit (.ofNat 1)) (.ite (.and (.not (.cmp .eql (.bin .quo .i64 (.iv 3) (.lit (.ofNat 8192))) (.lit (.ofNat 1)))) (.and (.not (.cmp .eql (.bin .quo .i64 (.iv 3) (.lit (.ofNat 8192))) (.lit (.ofNat 2)))) (.cmp .eql (.bin .quo .i64 (.iv 3) (.lit (.ofNat 8192))) (.lit (.ofNat 4))))) (.lit (.ofNat 2)) (.ite (.and (.not (.cmp .eql (.bin .quo .i64 (.iv 3) (.lit (.ofNat 8192))) (.lit (.ofNat 1)))) (.and (.not (.cmp .eql (.bin .quo .i64 (.iv 3) (.lit (.ofNat 8192))) (.lit (.ofNat 2)))) (.and (.not (.cmp .eql (.bin .quo .i64 (.iv 3) (.lit (.ofNat 8192))) (.lit (.ofNat 4)))) (.cmp .eql (.bin .quo .i64 (.iv 3) (.lit (.ofNat 8192))) (.lit (.ofNat 8)))))) (.lit (.ofNat 3)) (.ite (.and (.not (.cmp .eql (.bin .quo .i64 (.iv 3) (.lit (.ofNat 8192))) (.lit (.ofNat 1)))) (.and (.not (.cmp .eql (.bin .quo .i64 (.iv 3) (.lit (.ofNat 8192))) (.lit (.ofNat 2)))) (.and (.not (.cmp .eql (.bin .quo .i64 (.iv 3) (.lit (.ofNat 8192))) (.lit (.ofNat 4)))) (.and (.not (.cmp .eql (.bin .quo .i64 (.iv 3) (.lit (.ofNat 8192))) (.lit (.ofNat 8)))) (.cmp .eql (.bin .quo .i64 (.iv 3) (.lit (.ofNat 8192))) (.lit (.ofNat 16))))))) (.lit (.ofNat 4)) (.ite (.and (.not (.cmp .eql (.bin .quo .i64 (.iv 3) (.lit (.ofNat 8192))) (.lit (.ofNat 1)))) (.and (.not (.cmp .eql (.bin .quo .i64 (.iv 3) (.lit (.ofNat 8192))) (.lit (.ofNat 2)))) (.and (.not (.cmp .eql (.bin .quo .i64 (.iv 3) (.lit (.ofNat 8192))) (.lit (.ofNat 4)))) (.and (.not (.cmp .eql (.bin .quo .i64 (.iv 3) (.lit (.ofNat 8192))) (.lit (.ofNat 8)))) (.and (.not (.cmp .eql (.bin .quo .i64 (.iv 3) (.lit (.ofNat 8192))) (.lit (.ofNat 16)))) (.cmp .eql (.bin .quo .i64 (.iv 3) (.lit (.ofNat 8192))) (.lit (.ofNat 32)))))))) (.lit (.ofNat 5)) (.lit (.negSucc 0)))))))) (.lit (.ofNat 0))) (.cmp .eql (.bin .rem .i64 (.iv 3) (.lit (.ofNat 8192))) (.lit (.ofNat 0)))))) (.and (.bv 8) (.cmp .neq (.iv 3) (.lit (.ofNat 8192))))) (.lit (.ofNat 5)) (.lit (.ofNat 1)))) (.lit (.ofNat 0))) (.lit (.ofNat 0))
def c_1 : X := .cmp .lss (.iv 35) (.lit (.ofNat 0))
def c_2 : X := .cmp .gtr (.iv 35) (.lit (.ofNat 100))
def c_3 : X := .cmp .geq (.iv 13) (.lit (.ofNat 5))
def c_4 : X := .cmp .geq (.ite (.cmp .gtr (.iv 17) (.ite (.cmp .gtr (.iv 16) (.ite (.cmp .gtr (.iv 15) (.ite (.cmp .gtr (.iv 14) (.iv 12)) (.iv 14) (.iv 12))) (.iv 15) (.ite (.cmp .gtr (.iv 14) (.iv 12)) (.iv 14) (.iv 12)))) (.iv 16) (.ite (.cmp .gtr (.iv 15) (.ite (.cmp .gtr (.iv 14) (.iv 12)) (.iv 14) (.iv 12))) (.iv 15) (.ite (.cmp .gtr (.iv 14) (.iv 12)) (.iv 14) (.iv 12))))) (.iv 17) (.ite (.cmp .gtr (.iv 16) (.ite (.cmp .gtr (.iv 15) (.ite (.cmp .gtr (.iv 14) (.iv 12)) (.iv 14) (.iv 12))) (.iv 15) (.ite (.cmp .gtr (.iv 14) (.iv 12)) (.iv 14) (.iv 12)))) (.iv 16) (.ite (.cmp .gtr (.iv 15) (.ite (.cmp .gtr (.iv 14) (.iv 12)) (.iv 14) (.iv 12))) (.iv 15) (.ite (.cmp .gtr (.iv 14) (.iv 12)) (.iv 14) (.iv 12))))) (.lit (.ofNat 32))
def c_5 : X := .cmp .gtr (.iv 14) (.iv 12)
def c_6 : X := .cmp .gtr (.iv 15) (.iv 14)
def c_7 : X := .cmp .gtr (.iv 16) (.iv 15)
def c_8 : X := .cmp .gtr (.iv 17) (.iv 16)
def c_9 : X := .cmp .geq (.iv 17) (.lit (.ofNat 32))
def c_10 : X := .cmp .geq (.iv 16) (.lit (.ofNat 32))
def c_11 : X := .cmp .gtr (.iv 17) (.iv 15)
def c_12 : X := .cmp .geq (.iv 15) (.lit (.ofNat 32))
def c_13 : X := .cmp .gtr (.iv 16) (.iv 14)
def c_14 : X := .cmp .gtr (.iv 17) (.iv 14)
def c_15 : X := .cmp .geq (.iv 14) (.lit (.ofNat 32))
def c_16 : X := .cmp .gtr (.iv 15) (.iv 12)
def c_17 : X := .cmp .gtr (.iv 16) (.iv 12)
def c_18 : X := .cmp .gtr (.iv 17) (.iv 12)
def c_19 : X := .cmp .geq (.iv 12) (.lit (.ofNat 32))
def c_20 : X := .cmp .lss (.iv 9) (.lit (.ofNat 0))
def c_21 : X := .cmp .gtr (.iv 9) (.lit (.ofNat 7))
def c_22 : X := .cmp .eql (.iv 9) (.lit (.ofNat 5))
def c_23 : X := .cmp .eql (.iv 9) (.lit (.ofNat 6))
def c_24 : X := .cmp .eql (.iv 9) (.lit (.ofNat 0))
def c_25 : X := .cmp .eql (.iv 9) (.lit (.ofNat 1))
def c_26 : X := .cmp .lss (.iv 36) (.lit (.ofNat 32768))
def c_27 : X := .cmp .eql (.iv 38) (.bin .add .i64 (.iv 18) (.lit (.ofNat 1)))
def c_28 : X := .cmp .geq (.iv 37) (.lit (.ofNat 128))
def c_29 : X := .cmp .eql (.iv 13) (.lit (.ofNat 0))
def c_30 : X := .cmp .eql (.iv 13) (.lit (.ofNat 1))
def c_31 : X := .cmp .eql (.iv 13) (.lit (.ofNat 2))
def c_32 : X := .cmp .eql (.iv 13) (.lit (.ofNat 3))
def c_33 : X := .cmp .lss (.iv 36) (.lit (.ofNat 49152))
def c_34 : X := .cmp .lss (.iv 36) (.lit (.ofNat 40960))
def c_35 : X := .cmp .lss (.iv 36) (.lit (.ofNat 57344))
def c_36 : X := .cmp .eql (.iv 9) (.lit (.ofNat 2))
def c_37 : X := .cmp .eql (.iv 9) (.lit (.ofNat 3))
def c_38 : X := .cmp .eql (.iv 9) (.lit (.ofNat 4))
def c_39 : X := .cmp .gtr (.bin .and .u16 (.iv 36) (.lit (.ofNat 1))) (.lit (.ofNat 0))
def c_40 : X := .cmp .eql (.bin .rem .i64 (.iv 36) (.lit (.ofNat 2))) (.lit (.ofNat 1))
def c_41 : X := .cmp .neq (.bin .and .u64 (.iv 20) (.lit (.ofNat 1))) (.lit (.ofNat 0))
def c_42 : X := .cmp .neq (.bin .and .u64 (.iv 20) (.lit (.ofNat 2))) (.lit (.ofNat 0))
def c_43 : X := .cmp .neq (.bin .and .u64 (.iv 20) (.lit (.ofNat 4))) (.lit (.ofNat 0))
def c_44 : X := .cmp .eql (.bin .rem .i64 (.iv 36) (.lit (.ofNat 2))) (.lit (.ofNat 0))
def c_45 : X := .cmp .eql (.iv 9) (.lit (.ofNat 7))
def K_0 : Known := ⟨ks7.map LK.rg, []⟩
def K_1 : Known := K_0.assume c_0 true
def K_2 : Known := K_1.assume c_1 true
def K_3 : Known := K_1.assume c_1 false
def K_4 : Known := K_3.assume c_2 true
def K_5 : Known := K_3.assume c_2 false
def K_6 : Known := K_5.assume c_3 true
def K_7 : Known := K_5.assume c_3 false
def K_8 : Known := K_7.assume c_4 true
def K_9 : Known := K_8.assume c_5 true
def K_10 : Known := K_9.assume c_6 true
def K_11 : Known := K_10.assume c_7 true
def K_12 : Known := K_11.assume c_8 true
def K_13 : Known := K_12.assume c_9 true
def K_14 : Known := K_11.assume c_8 false
def K_15 : Known := K_14.assume c_10 true
def K_16 : Known := K_10.assume c_7 false
def K_17 : Known := K_16.assume c_11 true
def K_18 : Known := K_17.assume c_9 true
def K_19 : Known := K_16.assume c_11 false
def K_20 : Known := K_19.assume c_12 true
def K_21 : Known := K_9.assume c_6 false
def K_22 : Known := K_21.assume c_13 true
def K_23 : Known := K_22.assume c_8 true
def K_24 : Known := K_23.assume c_9 true
def K_25 : Known := K_22.assume c_8 false
def K_26 : Known := K_25.assume c_10 true
def K_27 : Known := K_21.assume c_13 false
def K_28 : Known := K_27.assume c_14 true
def K_29 : Known := K_28.assume c_9 true
def K_30 : Known := K_27.assume c_14 false
def K_31 : Known := K_30.assume c_15 true
def K_32 : Known := K_8.assume c_5 false
def K_33 : Known := K_32.assume c_16 true
def K_34 : Known := K_33.assume c_7 true
def K_35 : Known := K_34.assume c_8 true
def K_36 : Known := K_35.assume c_9 true
def K_37 : Known := K_34.assume c_8 false
def K_38 : Known := K_37.assume c_10 true
def K_39 : Known := K_33.assume c_7 false
def K_40 : Known := K_39.assume c_11 true
def K_41 : Known := K_40.assume c_9 true
def K_42 : Known := K_39.assume c_11 false
def K_43 : Known := K_42.assume c_12 true
def K_44 : Known := K_32.assume c_16 false
def K_45 : Known := K_44.assume c_17 true
def K_46 : Known := K_45.assume c_8 true
def K_47 : Known := K_46.assume c_9 true
def K_48 : Known := K_45.assume c_8 false
def K_49 : Known := K_48.assume c_10 true
def K_50 : Known := K_44.assume c_17 false
def K_51 : Known := K_50.assume c_18 true
def K_52 : Known := K_51.assume c_9 true
def K_53 : Known := K_50.assume c_18 false
def K_54 : Known := K_53.assume c_19 true
def K_55 : Known := K_7.assume c_4 false
def K_56 : Known := K_55.assume c_19 true
def K_57 : Known := K_55.assume c_19 false
def K_58 : Known := K_57.assume c_15 true
def K_59 : Known := K_57.assume c_15 false
def K_60 : Known := K_59.assume c_12 true
def K_61 : Known := K_59.assume c_12 false
def K_62 : Known := K_61.assume c_10 true
def K_63 : Known := K_61.assume c_10 false
def K_64 : Known := K_63.assume c_9 true
def K_65 : Known := K_63.assume c_9 false
def K_66 : Known := K_65.assume c_20 true
def K_67 : Known := K_65.assume c_20 false
def K_68 : Known := K_67.assume c_21 true
def K_69 : Known := K_67.assume c_21 false
def K_70 : Known := K_69.assume c_22 true
def K_71 : Known := K_69.assume c_22 false
def K_72 : Known := K_71.assume c_23 true
def K_73 : Known := K_71.assume c_23 false
def K_74 : Known := K_73.assume c_24 true
def K_75 : Known := K_73.assume c_24 false
def K_76 : Known := K_75.assume c_25 true
def K_77 : Known := K_76.assume c_26 true
def K_78 : Known := K_76.assume c_26 false
def K_79 : Known := K_78.assume c_27 true
def K_80 : Known := K_78.assume c_27 false
def K_81 : Known := K_80.assume c_28 true
def K_82 : Known := K_80.assume c_28 false
def K_83 : Known := K_82.assume c_29 true
def K_84 : Known := K_82.assume c_29 false
def K_85 : Known := K_84.assume c_30 true
def K_86 : Known := K_84.assume c_30 false
def K_87 : Known := K_86.assume c_31 true
def K_88 : Known := K_86.assume c_31 false
def K_89 : Known := K_88.assume c_32 true
def K_90 : Known := K_88.assume c_32 false
def K_91 : Known := K_90.assume c_33 true
def K_92 : Known := K_91.assume c_34 true
def K_93 : Known := K_91.assume c_34 false
def K_94 : Known := K_90.assume c_33 false
def K_95 : Known := K_94.assume c_35 true
def K_96 : Known := K_94.assume c_35 false
def K_97 : Known := K_75.assume c_25 false
def K_98 : Known := K_97.assume c_36 true
def K_99 : Known := K_97.assume c_36 false
def K_100 : Known := K_99.assume c_37 true
def K_101 : Known := K_99.assume c_37 false
def K_102 : Known := K_101.assume c_38 true
def K_103 : Known := K_102.assume c_26 true
def K_104 : Known := K_102.assume c_26 false
def K_105 : Known := K_104.assume c_39 true
def K_106 : Known := K_105.assume c_40 true
def K_107 : Known := K_106.assume c_33 true
def K_108 : Known := K_107.assume c_34 true
def K_109 : Known := K_108.assume c_41 true
def K_110 : Known := K_109.assume c_42 true
def K_111 : Known := K_110.assume c_43 true
def K_112 : Known := K_110.assume c_43 false
def K_113 : Known := K_109.assume c_42 false
def K_114 : Known := K_113.assume c_43 true
def K_115 : Known := K_113.assume c_43 false
def K_116 : Known := K_108.assume c_41 false
def K_117 : Known := K_116.assume c_42 true
def K_118 : Known := K_117.assume c_43 true
def K_119 : Known := K_117.assume c_43 false
def K_120 : Known := K_116.assume c_42 false
def K_121 : Known := K_120.assume c_43 true
def K_122 : Known := K_120.assume c_43 false
def K_123 : Known := K_107.assume c_34 false
def K_124 : Known := K_106.assume c_33 false
def K_125 : Known := K_124.assume c_35 true
def K_126 : Known := K_124.assume c_35 false
def K_127 : Known := K_104.assume c_39 false
def K_128 : Known := K_127.assume c_44 true
def K_129 : Known := K_128.assume c_33 true
def K_130 : Known := K_129.assume c_34 true
def K_131 : Known := K_129.assume c_34 false
def K_132 : Known := K_128.assume c_33 false
def K_133 : Known := K_132.assume c_35 true
def K_134 : Known := K_132.assume c_35 false
def K_135 : Known := K_101.assume c_38 false
def K_136 : Known := K_135.assume c_45 true
def K_137 : Known := K_135.assume c_45 false
def K_138 : Known := K_0.assume c_0 false
def K_139 : Known := K_138.assume c_1 true
def K_140 : Known := K_138.assume c_1 false
def K_141 : Known := K_140.assume c_2 true
def K_142 : Known := K_140.assume c_2 false
def K_143 : Known := K_142.assume c_3 true
def K_144 : Known := K_142.assume c_3 false
def K_145 : Known := K_144.assume c_4 true
def K_146 : Known := K_145.assume c_5 true
def K_147 : Known := K_146.assume c_6 true
def K_148 : Known := K_147.assume c_7 true
def K_149 : Known := K_148.assume c_8 true
def K_150 : Known := K_149.assume c_9 true
def K_151 : Known := K_148.assume c_8 false
def K_152 : Known := K_151.assume c_10 true
def K_153 : Known := K_147.assume c_7 false
def K_154 : Known := K_153.assume c_11 true
def K_155 : Known := K_154.assume c_9 true
def K_156 : Known := K_153.assume c_11 false
def K_157 : Known := K_156.assume c_12 true
def K_158 : Known := K_146.assume c_6 false
def K_159 : Known := K_158.assume c_13 true
def K_160 : Known := K_159.assume c_8 true
def K_161 : Known := K_160.assume c_9 true
def K_162 : Known := K_159.assume c_8 false
def K_163 : Known := K_162.assume c_10 true
def K_164 : Known := K_158.assume c_13 false
def K_165 : Known := K_164.assume c_14 true
def K_166 : Known := K_165.assume c_9 true
def K_167 : Known := K_164.assume c_14 false
def K_168 : Known := K_167.assume c_15 true
def K_169 : Known := K_145.assume c_5 false
def K_170 : Known := K_169.assume c_16 true
def K_171 : Known := K_170.assume c_7 true
def K_172 : Known := K_171.assume c_8 true
def K_173 : Known := K_172.assume c_9 true
def K_174 : Known := K_171.assume c_8 false
def K_175 : Known := K_174.assume c_10 true
def K_176 : Known := K_170.assume c_7 false
def K_177 : Known := K_176.assume c_11 true
def K_178 : Known := K_177.assume c_9 true
def K_179 : Known := K_176.assume c_11 false
def K_180 : Known := K_179.assume c_12 true
def K_181 : Known := K_169.assume c_16 false
def K_182 : Known := K_181.assume c_17 true
def K_183 : Known := K_182.assume c_8 true
def K_184 : Known := K_183.assume c_9 true
def K_185 : Known := K_182.assume c_8 false
def K_186 : Known := K_185.assume c_10 true
def K_187 : Known := K_181.assume c_17 false
def K_188 : Known := K_187.assume c_18 true
def K_189 : Known := K_188.assume c_9 true
def K_190 : Known := K_187.assume c_18 false
def K_191 : Known := K_190.assume c_19 true
def K_192 : Known := K_144.assume c_4 false
def K_193 : Known := K_192.assume c_19 true
def K_194 : Known := K_192.assume c_19 false
def K_195 : Known := K_194.assume c_15 true
def K_196 : Known := K_194.assume c_15 false
def K_197 : Known := K_196.assume c_12 true
def K_198 : Known := K_196.assume c_12 false
def K_199 : Known := K_198.assume c_10 true
def K_200 : Known := K_198.assume c_10 false
def K_201 : Known := K_200.assume c_9 true
def K_202 : Known := K_200.assume c_9 false
def K_203 : Known := K_202.assume c_20 true
def K_204 : Known := K_202.assume c_20 false
def K_205 : Known := K_204.assume c_21 true
def K_206 : Known := K_204.assume c_21 false
def K_207 : Known := K_206.assume c_22 true
def K_208 : Known := K_206.assume c_22 false
def K_209 : Known := K_208.assume c_23 true
def K_210 : Known := K_208.assume c_23 false
def K_211 : Known := K_210.assume c_24 true
def K_212 : Known := K_210.assume c_24 false
def K_213 : Known := K_212.assume c_25 true
def K_214 : Known := K_213.assume c_26 true
def K_215 : Known := K_213.assume c_26 false
def K_216 : Known := K_215.assume c_27 true
def K_217 : Known := K_215.assume c_27 false
def K_218 : Known := K_217.assume c_28 true
def K_219 : Known := K_217.assume c_28 false
def K_220 : Known := K_219.assume c_29 true
def K_221 : Known := K_219.assume c_29 false
def K_222 : Known := K_221.assume c_30 true
def K_223 : Known := K_221.assume c_30 false
def K_224 : Known := K_223.assume c_31 true
def K_225 : Known := K_223.assume c_31 false
def K_226 : Known := K_225.assume c_32 true
def K_227 : Known := K_225.assume c_32 false
def K_228 : Known := K_227.assume c_33 true
def K_229 : Known := K_228.assume c_34 true
def K_230 : Known := K_228.assume c_34 false
def K_231 : Known := K_227.assume c_33 false
def K_232 : Known := K_231.assume c_35 true
def K_233 : Known := K_231.assume c_35 false
def K_234 : Known := K_212.assume c_25 false
def K_235 : Known := K_234.assume c_36 true
def K_236 : Known := K_234.assume c_36 false
def K_237 : Known := K_236.assume c_37 true
def K_238 : Known := K_236.assume c_37 false
def K_239 : Known := K_238.assume c_38 true
def K_240 : Known := K_239.assume c_26 true
def K_241 : Known := K_239.assume c_26 false
def K_242 : Known := K_241.assume c_39 true
def K_243 : Known := K_242.assume c_40 true
def K_244 : Known := K_243.assume c_33 true
def K_245 : Known := K_244.assume c_34 true
def K_246 : Known := K_245.assume c_41 true
def K_247 : Known := K_246.assume c_42 true
def K_248 : Known := K_247.assume c_43 true
def K_249 : Known := K_247.assume c_43 false
def K_250 : Known := K_246.assume c_42 false
def K_251 : Known := K_250.assume c_43 true
def K_252 : Known := K_250.assume c_43 false
def K_253 : Known := K_245.assume c_41 false
def K_254 : Known := K_253.assume c_42 true
def K_255 : Known := K_254.assume c_43 true
def K_256 : Known := K_254.assume c_43 false
def K_257 : Known := K_253.assume c_42 false
def K_258 : Known := K_257.assume c_43 true
def K_259 : Known := K_257.assume c_43 false
def K_260 : Known := K_244.assume c_34 false
def K_261 : Known := K_243.assume c_33 false
def K_262 : Known := K_261.assume c_35 true
def K_263 : Known := K_261.assume c_35 false
def K_264 : Known := K_241.assume c_39 false
def K_265 : Known := K_264.assume c_44 true
def K_266 : Known := K_265.assume c_33 true
def K_267 : Known := K_266.assume c_34 true
def K_268 : Known := K_266.assume c_34 false
def K_269 : Known := K_265.assume c_33 false
def K_270 : Known := K_269.assume c_35 true
def K_271 : Known := K_269.assume c_35 false
def K_272 : Known := K_238.assume c_38 false
def K_273 : Known := K_272.assume c_45 true
def K_274 : Known := K_272.assume c_45 false
theorem leaf_2 : T K_2 := by unfold T; kernel_rfl
theorem leaf_4 : T K_4 := by unfold T; kernel_rfl
theorem leaf_6 : T K_6 := by unfold T; kernel_rfl
theorem leaf_13 : T K_13 := by unfold T; kernel_rfl
theorem leaf_15 : T K_15 := by unfold T; kernel_rfl
theorem leaf_18 : T K_18 := by unfold T; kernel_rfl
theorem leaf_20 : T K_20 := by unfold T; kernel_rfl
theorem leaf_24 : T K_24 := by unfold T; kernel_rfl
theorem leaf_26 : T K_26 := by unfold T; kernel_rfl
theorem leaf_29 : T K_29 := by unfold T; kernel_rfl
theorem leaf_31 : T K_31 := by unfold T; kernel_rfl
theorem leaf_36 : T K_36 := by unfold T; kernel_rfl
theorem leaf_38 : T K_38 := by unfold T; kernel_rfl
theorem leaf_41 : T K_41 := by unfold T; kernel_rfl
theorem leaf_43 : T K_43 := by unfold T; kernel_rfl
theorem leaf_47 : T K_47 := by unfold T; kernel_rfl
theorem leaf_49 : T K_49 := by unfold T; kernel_rfl
theorem leaf_52 : T K_52 := by unfold T; kernel_rfl
theorem leaf_54 : T K_54 := by unfold T; kernel_rfl
theorem leaf_56 : V K_56 := by unfold V; kernel_rfl
theorem leaf_58 : V K_58 := by unfold V; kernel_rfl
theorem leaf_60 : V K_60 := by unfold V; kernel_rfl
theorem leaf_62 : V K_62 := by unfold V; kernel_rfl
theorem leaf_64 : V K_64 := by unfold V; kernel_rfl
theorem leaf_66 : T K_66 := by unfold T; kernel_rfl
theorem leaf_68 : T K_68 := by unfold T; kernel_rfl
theorem leaf_70 : T K_70 := by unfold T; kernel_rfl
theorem leaf_72 : T K_72 := by unfold T; kernel_rfl
theorem leaf_74 : T K_74 := by unfold T; kernel_rfl
theorem leaf_77 : T K_77 := by unfold T; kernel_rfl
theorem leaf_79 : T K_79 := by unfold T; kernel_rfl
theorem leaf_81 : T K_81 := by unfold T; kernel_rfl
theorem leaf_83 : T K_83 := by unfold T; kernel_rfl
theorem leaf_85 : T K_85 := by unfold T; kernel_rfl
theorem leaf_87 : T K_87 := by unfold T; kernel_rfl
theorem leaf_89 : T K_89 := by unfold T; kernel_rfl
theorem leaf_92 : T K_92 := by unfold T; kernel_rfl
theorem leaf_93 : T K_93 := by unfold T; kernel_rfl
theorem leaf_95 : T K_95 := by unfold T; kernel_rfl
theorem leaf_96 : T K_96 := by unfold T; kernel_rfl
theorem leaf_98 : T K_98 := by unfold T; kernel_rfl
theorem leaf_100 : T K_100 := by unfold T; kernel_rfl
theorem leaf_103 : T K_103 := by unfold T; kernel_rfl
theorem leaf_111 : T K_111 := by unfold T; kernel_rfl
theorem leaf_112 : T K_112 := by unfold T; kernel_rfl
theorem leaf_114 : T K_114 := by unfold T; kernel_rfl
theorem leaf_115 : T K_115 := by unfold T; kernel_rfl
theorem leaf_118 : T K_118 := by unfold T; kernel_rfl
theorem leaf_119 : T K_119 := by unfold T; kernel_rfl
theorem leaf_121 : T K_121 := by unfold T; kernel_rfl
theorem leaf_122 : T K_122 := by unfold T; kernel_rfl
theorem leaf_123 : T K_123 := by unfold T; kernel_rfl
theorem leaf_125 : T K_125 := by unfold T; kernel_rfl
theorem leaf_126 : T K_126 := by unfold T; kernel_rfl
theorem leaf_130 : T K_130 := by unfold T; kernel_rfl
theorem leaf_131 : T K_131 := by unfold T; kernel_rfl
theorem leaf_133 : T K_133 := by unfold T; kernel_rfl
theorem leaf_134 : T K_134 := by unfold T; kernel_rfl
theorem leaf_136 : T K_136 := by unfold T; kernel_rfl
theorem leaf_137 : T K_137 := by unfold T; kernel_rfl
theorem leaf_139 : T K_139 := by unfold T; kernel_rfl
theorem leaf_141 : T K_141 := by unfold T; kernel_rfl
theorem leaf_143 : T K_143 := by unfold T; kernel_rfl
theorem leaf_150 : T K_150 := by unfold T; kernel_rfl
theorem leaf_152 : T K_152 := by unfold T; kernel_rfl
theorem leaf_155 : T K_155 := by unfold T; kernel_rfl
theorem leaf_157 : T K_157 := by unfold T; kernel_rfl
theorem leaf_161 : T K_161 := by unfold T; kernel_rfl
theorem leaf_163 : T K_163 := by unfold T; kernel_rfl
theorem leaf_166 : T K_166 := by unfold T; kernel_rfl
theorem leaf_168 : T K_168 := by unfold T; kernel_rfl
theorem leaf_173 : T K_173 := by unfold T; kernel_rfl
theorem leaf_175 : T K_175 := by unfold T; kernel_rfl
theorem leaf_178 : T K_178 := by unfold T; kernel_rfl
theorem leaf_180 : T K_180 := by unfold T; kernel_rfl
theorem leaf_184 : T K_184 := by unfold T; kernel_rfl
theorem leaf_186 : T K_186 := by unfold T; kernel_rfl
theorem leaf_189 : T K_189 := by unfold T; kernel_rfl
theorem leaf_191 : T K_191 := by unfold T; kernel_rfl
theorem leaf_193 : V K_193 := by unfold V; kernel_rfl
theorem leaf_195 : V K_195 := by unfold V; kernel_rfl
theorem leaf_197 : V K_197 := by unfold V; kernel_rfl
theorem leaf_199 : V K_199 := by unfold V; kernel_rfl
theorem leaf_201 : V K_201 := by unfold V; kernel_rfl
theorem leaf_203 : T K_203 := by unfold T; kernel_rfl
theorem leaf_205 : T K_205 := by unfold T; kernel_rfl
theorem leaf_207 : T K_207 := by unfold T; kernel_rfl
theorem leaf_209 : T K_209 := by unfold T; kernel_rfl
theorem leaf_211 : T K_211 := by unfold T; kernel_rfl
theorem leaf_214 : T K_214 := by unfold T; kernel_rfl
theorem leaf_216 : T K_216 := by unfold T; kernel_rfl
theorem leaf_218 : T K_218 := by unfold T; kernel_rfl
theorem leaf_220 : T K_220 := by unfold T; kernel_rfl
theorem leaf_222 : T K_222 := by unfold T; kernel_rfl
theorem leaf_224 : T K_224 := by unfold T; kernel_rfl
theorem leaf_226 : T K_226 := by unfold T; kernel_rfl
theorem leaf_229 : T K_229 := by unfold T; kernel_rfl
theorem leaf_230 : T K_230 := by unfold T; kernel_rfl
theorem leaf_232 : T K_232 := by unfold T; kernel_rfl
theorem leaf_233 : T K_233 := by unfold T; kernel_rfl
theorem leaf_235 : T K_235 := by unfold T; kernel_rfl
theorem leaf_237 : T K_237 := by unfold T; kernel_rfl
theorem leaf_240 : T K_240 := by unfold T; kernel_rfl
theorem leaf_248 : T K_248 := by unfold T; kernel_rfl
theorem leaf_249 : T K_249 := by unfold T; kernel_rfl
theorem leaf_251 : T K_251 := by unfold T; kernel_rfl
theorem leaf_252 : T K_252 := by unfold T; kernel_rfl
theorem leaf_255 : T K_255 := by unfold T; kernel_rfl
theorem leaf_256 : T K_256 := by unfold T; kernel_rfl
theorem leaf_258 : T K_258 := by unfold T; kernel_rfl
theorem leaf_259 : T K_259 := by unfold T; kernel_rfl
theorem leaf_260 : T K_260 := by unfold T; kernel_rfl
theorem leaf_262 : T K_262 := by unfold T; kernel_rfl
theorem leaf_263 : T K_263 := by unfold T; kernel_rfl
theorem leaf_267 : T K_267 := by unfold T; kernel_rfl
theorem leaf_268 : T K_268 := by unfold T; kernel_rfl
theorem leaf_270 : T K_270 := by unfold T; kernel_rfl
theorem leaf_271 : T K_271 := by unfold T; kernel_rfl
theorem leaf_273 : T K_273 := by unfold T; kernel_rfl
theorem leaf_274 : T K_274 := by unfold T; kernel_rfl
theorem know_12 : X.prove 300 1000 K_12 c_9 = true := by kernel_rfl
theorem know_14 : X.prove 300 1000 K_14 c_10 = true := by kernel_rfl
theorem know_17 : X.prove 300 1000 K_17 c_9 = true := by kernel_rfl
theorem know_19 : X.prove 300 1000 K_19 c_12 = true := by kernel_rfl
theorem know_23 : X.prove 300 1000 K_23 c_9 = true := by kernel_rfl
theorem know_25 : X.prove 300 1000 K_25 c_10 = true := by kernel_rfl
theorem know_28 : X.prove 300 1000 K_28 c_9 = true := by kernel_rfl
theorem know_30 : X.prove 300 1000 K_30 c_15 = true := by kernel_rfl
theorem know_35 : X.prove 300 1000 K_35 c_9 = true := by kernel_rfl
theorem know_37 : X.prove 300 1000 K_37 c_10 = true := by kernel_rfl
theorem know_40 : X.prove 300 1000 K_40 c_9 = true := by kernel_rfl
theorem know_42 : X.prove 300 1000 K_42 c_12 = true := by kernel_rfl
theorem know_46 : X.prove 300 1000 K_46 c_9 = true := by kernel_rfl
theorem know_48 : X.prove 300 1000 K_48 c_10 = true := by kernel_rfl
theorem know_51 : X.prove 300 1000 K_51 c_9 = true := by kernel_rfl
theorem know_53 : X.prove 300 1000 K_53 c_19 = true := by kernel_rfl
theorem know_105 : X.prove 300 1000 K_105 c_40 = true := by kernel_rfl
theorem know_127 : X.prove 300 1000 K_127 c_44 = true := by kernel_rfl
theorem know_149 : X.prove 300 1000 K_149 c_9 = true := by kernel_rfl
theorem know_151 : X.prove 300 1000 K_151 c_10 = true := by kernel_rfl
theorem know_154 : X.prove 300 1000 K_154 c_9 = true := by kernel_rfl
theorem know_156 : X.prove 300 1000 K_156 c_12 = true := by kernel_rfl
theorem know_160 : X.prove 300 1000 K_160 c_9 = true := by kernel_rfl
theorem know_162 : X.prove 300 1000 K_162 c_10 = true := by kernel_rfl
theorem know_165 : X.prove 300 1000 K_165 c_9 = true := by kernel_rfl
theorem know_167 : X.prove 300 1000 K_167 c_15 = true := by kernel_rfl
theorem know_172 : X.prove 300 1000 K_172 c_9 = true := by kernel_rfl
theorem know_174 : X.prove 300 1000 K_174 c_10 = true := by kernel_rfl
theorem know_177 : X.prove 300 1000 K_177 c_9 = true := by kernel_rfl
theorem know_179 : X.prove 300 1000 K_179 c_12 = true := by kernel_rfl
theorem know_183 : X.prove 300 1000 K_183 c_9 = true := by kernel_rfl
theorem know_185 : X.prove 300 1000 K_185 c_10 = true := by kernel_rfl
theorem know_188 : X.prove 300 1000 K_188 c_9 = true := by kernel_rfl
theorem know_190 : X.prove 300 1000 K_190 c_19 = true := by kernel_rfl
theorem know_242 : X.prove 300 1000 K_242 c_40 = true := by kernel_rfl
theorem know_264 : X.prove 300 1000 K_264 c_44 = true := by kernel_rfl
theorem plan7 : ∀ ρ, (⟨ks7.map LK.rg, []⟩ : Known).ok ρ → ∃ K d, K.ok ρ ∧ (tree Try.prog 0 (sumsIn sums20) 300 7 ss7 bare d K).prove 300 1000 K = true := fun _ h => split_on c_0 h (fun (h : K_1.ok _) => split_on c_1 h (fun (h : K_2.ok _) => ⟨K_2, 6, h, leaf_2⟩) (fun (h : K_3.ok _) => split_on c_2 h (fun (h : K_4.ok _) => ⟨K_4, 6, h, leaf_4⟩) (fun (h : K_5.ok _) => split_on c_3 h (fun (h : K_6.ok _) => ⟨K_6, 6, h, leaf_6⟩) (fun (h : K_7.ok _) => split_on c_4 h (fun (h : K_8.ok _) => split_on c_5 h (fun (h : K_9.ok _) => split_on c_6 h (fun (h : K_10.ok _) => split_on c_7 h (fun (h : K_11.ok _) => split_on c_8 h (fun (h : K_12.ok _) => split_know c_9 h know_12 (fun (h : K_13.ok _) => ⟨K_13, 6, h, leaf_13⟩)) (fun (h : K_14.ok _) => split_know c_10 h know_14 (fun (h : K_15.ok _) => ⟨K_15, 6, h, leaf_15⟩))) (fun (h : K_16.ok _) => split_on c_11 h (fun (h : K_17.ok _) => split_know c_9 h know_17 (fun (h : K_18.ok _) => ⟨K_18, 6, h, leaf_18⟩)) (fun (h : K_19.ok _) => split_know c_12 h know_19 (fun (h : K_20.ok _) => ⟨K_20, 6, h, leaf_20⟩)))) (fun (h : K_21.ok _) => split_on c_13 h (fun (h : K_22.ok _) => split_on c_8 h (fun (h : K_23.ok _) => split_know c_9 h know_23 (fun (h : K_24.ok _) => ⟨K_24, 6, h, leaf_24⟩)) (fun (h : K_25.ok _) => split_know c_10 h know_25 (fun (h : K_26.ok _) => ⟨K_26, 6, h, leaf_26⟩))) (fun (h : K_27.ok _) => split_on c_14 h (fun (h : K_28.ok _) => split_know c_9 h know_28 (fun (h : K_29.ok _) => ⟨K_29, 6, h, leaf_29⟩)) (fun (h : K_30.ok _) => split_know c_15 h know_30 (fun (h : K_31.ok _) => ⟨K_31, 6, h, leaf_31⟩))))) (fun (h : K_32.ok _) => split_on c_16 h (fun (h : K_33.ok _) => split_on c_7 h (fun (h : K_34.ok _) => split_on c_8 h (fun (h : K_35.ok _) => split_know c_9 h know_35 (fun (h : K_36.ok _) => ⟨K_36, 6, h, leaf_36⟩)) (fun (h : K_37.ok _) => split_know c_10 h know_37 (fun (h : K_38.ok _) => ⟨K_38, 6, h, leaf_38⟩))) (fun (h : K_39.ok _) => split_on c_11 h (fun (h : K_40.ok _) => split_know c_9 h know_40 (fun (h : K_41.ok _) => ⟨K_41, 6, h, leaf_41⟩)) (fun (h : K_42.ok _) => split_know c_12 h know_42 (fun (h : K_43.ok _) => ⟨K_43, 6, h, leaf_43⟩)))) (fun (h : K_44.ok _) => split_on c_17 h (fun (h : K_45.ok _) => split_on c_8 h (fun (h : K_46.ok _) => split_know c_9 h know_46 (fun (h : K_47.ok _) => ⟨K_47, 6, h, leaf_47⟩)) (fun (h : K_48.ok _) => split_know c_10 h know_48 (fun (h : K_49.ok _) => ⟨K_49, 6, h, leaf_49⟩))) (fun (h : K_50.ok _) => split_on c_18 h (fun (h : K_51.ok _) => split_know c_9 h know_51 (fun (h : K_52.ok _) => ⟨K_52, 6, h, leaf_52⟩)) (fun (h : K_53.ok _) => split_know c_19 h know_53 (fun (h : K_54.ok _) => ⟨K_54, 6, h, leaf_54⟩)))))) (fun (h : K_55.ok _) => split_on c_19 h (fun (h : K_56.ok _) => split_void (big := 20) (n := 60) h leaf_56) (fun (h : K_57.ok _) => split_on c_15 h (fun (h : K_58.ok _) => split_void (big := 20) (n := 60) h leaf_58) (fun (h : K_59.ok _) => split_on c_12 h (fun (h : K_60.ok _) => split_void (big := 20) (n := 60) h leaf_60) (fun (h : K_61.ok _) => split_on c_10 h (fun (h : K_62.ok _) => split_void (big := 20) (n := 60) h leaf_62) (fun (h : K_63.ok _) => split_on c_9 h (fun (h : K_64.ok _) => split_void (big := 20) (n := 60) h leaf_64) (fun (h : K_65.ok _) => split_on c_20 h (fun (h : K_66.ok _) => ⟨K_66, 6, h, leaf_66⟩) (fun (h : K_67.ok _) => split_on c_21 h (fun (h : K_68.ok _) => ⟨K_68, 6, h, leaf_68⟩) (fun (h : K_69.ok _) => split_on c_22 h (fun (h : K_70.ok _) => ⟨K_70, 6, h, leaf_70⟩) (fun (h : K_71.ok _) => split_on c_23 h (fun (h : K_72.ok _) => ⟨K_72, 6, h, leaf_72⟩) (fun (h : K_73.ok _) => split_on c_24 h (fun (h : K_74.ok _) => ⟨K_74, 6, h, leaf_74⟩) (fun (h : K_75.ok _) => split_on c_25 h (fun (h : K_76.ok _) => split_on c_26 h (fun (h : K_77.ok _) => ⟨K_77, 6, h, leaf_77⟩) (fun (h : K_78.ok _) => split_on c_27 h (fun (h : K_79.ok _) => ⟨K_79, 6, h, leaf_79⟩) (fun (h : K_80.ok _) => split_on c_28 h (fun (h : K_81.ok _) => ⟨K_81, 6, h, leaf_81⟩) (fun (h : K_82.ok _) => split_on c_29 h (fun (h : K_83.ok _) => ⟨K_83, 6, h, leaf_83⟩) (fun (h : K_84.ok _) => split_on c_30 h (fun (h : K_85.ok _) => ⟨K_85, 6, h, leaf_85⟩) (fun (h : K_86.ok _) => split_on c_31 h (fun (h : K_87.ok _) => ⟨K_87, 6, h, leaf_87⟩) (fun (h : K_88.ok _) => split_on c_32 h (fun (h : K_89.ok _) => ⟨K_89, 6, h, leaf_89⟩) (fun (h : K_90.ok _) => split_on c_33 h (fun (h : K_91.ok _) => split_on c_34 h (fun (h : K_92.ok _) => ⟨K_92, 6, h, leaf_92⟩) (fun (h : K_93.ok _) => ⟨K_93, 6, h, leaf_93⟩)) (fun (h : K_94.ok _) => split_on c_35 h (fun (h : K_95.ok _) => ⟨K_95, 6, h, leaf_95⟩) (fun (h : K_96.ok _) => ⟨K_96, 6, h, leaf_96⟩)))))))))) (fun (h : K_97.ok _) => split_on c_36 h (fun (h : K_98.ok _) => ⟨K_98, 6, h, leaf_98⟩) (fun (h : K_99.ok _) => split_on c_37 h (fun (h : K_100.ok _) => ⟨K_100, 6, h, leaf_100⟩) (fun (h : K_101.ok _) => split_on c_38 h (fun (h : K_102.ok _) => split_on c_26 h (fun (h : K_103.ok _) => ⟨K_103, 6, h, leaf_103⟩) (fun (h : K_104.ok _) => split_on c_39 h (fun (h : K_105.ok _) => split_know c_40 h know_105 (fun (h : K_106.ok _) => split_on c_33 h (fun (h : K_107.ok _) => split_on c_34 h (fun (h : K_108.ok _) => split_on c_41 h (fun (h : K_109.ok _) => split_on c_42 h (fun (h : K_110.ok _) => split_on c_43 h (fun (h : K_111.ok _) => ⟨K_111, 6, h, leaf_111⟩) (fun (h : K_112.ok _) => ⟨K_112, 6, h, leaf_112⟩)) (fun (h : K_113.ok _) => split_on c_43 h (fun (h : K_114.ok _) => ⟨K_114, 6, h, leaf_114⟩) (fun (h : K_115.ok _) => ⟨K_115, 6, h, leaf_115⟩))) (fun (h : K_116.ok _) => split_on c_42 h (fun (h : K_117.ok _) => split_on c_43 h (fun (h : K_118.ok _) => ⟨K_118, 6, h, leaf_118⟩) (fun (h : K_119.ok _) => ⟨K_119, 6, h, leaf_119⟩)) (fun (h : K_120.ok _) => split_on c_43 h (fun (h : K_121.ok _) => ⟨K_121, 6, h, leaf_121⟩) (fun (h : K_122.ok _) => ⟨K_122, 6, h, leaf_122⟩)))) (fun (h : K_123.ok _) => ⟨K_123, 6, h, leaf_123⟩)) (fun (h : K_124.ok _) => split_on c_35 h (fun (h : K_125.ok _) => ⟨K_125, 6, h, leaf_125⟩) (fun (h : K_126.ok _) => ⟨K_126, 6, h, leaf_126⟩)))) (fun (h : K_127.ok _) => split_know c_44 h know_127 (fun (h : K_128.ok _) => split_on c_33 h (fun (h : K_129.ok _) => split_on c_34 h (fun (h : K_130.ok _) => ⟨K_130, 6, h, leaf_130⟩) (fun (h : K_131.ok _) => ⟨K_131, 6, h, leaf_131⟩)) (fun (h : K_132.ok _) => split_on c_35 h (fun (h : K_133.ok _) => ⟨K_133, 6, h, leaf_133⟩) (fun (h : K_134.ok _) => ⟨K_134, 6, h, leaf_134⟩)))))) (fun (h : K_135.ok _) => split_on c_45 h (fun (h : K_136.ok _) => ⟨K_136, 6, h, leaf_136⟩) (fun (h : K_137.ok _) => ⟨K_137, 6, h, leaf_137⟩)))))))))))))))))))) (fun (h : K_138.ok _) => split_on c_1 h (fun (h : K_139.ok _) => ⟨K_139, 6, h, leaf_139⟩) (fun (h : K_140.ok _) => split_on c_2 h (fun (h : K_141.ok _) => ⟨K_141, 6, h, leaf_141⟩) (fun (h : K_142.ok _) => split_on c_3 h (fun (h : K_143.ok _) => ⟨K_143, 6, h, leaf_143⟩) (fun (h : K_144.ok _) => split_on c_4 h (fun (h : K_145.ok _) => split_on c_5 h (fun (h : K_146.ok _) => split_on c_6 h (fun (h : K_147.ok _) => split_on c_7 h (fun (h : K_148.ok _) => split_on c_8 h (fun (h : K_149.ok _) => split_know c_9 h know_149 (fun (h : K_150.ok _) => ⟨K_150, 6, h, leaf_150⟩)) (fun (h : K_151.ok _) => split_know c_10 h know_151 (fun (h : K_152.ok _) => ⟨K_152, 6, h, leaf_152⟩))) (fun (h : K_153.ok _) => split_on c_11 h (fun (h : K_154.ok _) => split_know c_9 h know_154 (fun (h : K_155.ok _) => ⟨K_155, 6, h, leaf_155⟩)) (fun (h : K_156.ok _) => split_know c_12 h know_156 (fun (h : K_157.ok _) => ⟨K_157, 6, h, leaf_157⟩)))) (fun (h : K_158.ok _) => split_on c_13 h (fun (h : K_159.ok _) => split_on c_8 h (fun (h : K_160.ok _) => split_know c_9 h know_160 (fun (h : K_161.ok _) => ⟨K_161, 6, h, leaf_161⟩)) (fun (h : K_162.ok _) => split_know c_10 h know_162 (fun (h : K_163.ok _) => ⟨K_163, 6, h, leaf_163⟩))) (fun (h : K_164.ok _) => split_on c_14 h (fun (h : K_165.ok _) => split_know c_9 h know_165 (fun (h : K_166.ok _) => ⟨K_166, 6, h, leaf_166⟩)) (fun (h : K_167.ok _) => split_know c_15 h know_167 (fun (h : K_168.ok _) => ⟨K_168, 6, h, leaf_168⟩))))) (fun (h : K_169.ok _) => split_on c_16 h (fun (h : K_170.ok _) => split_on c_7 h (fun (h : K_171.ok _) => split_on c_8 h (fun (h : K_172.ok _) => split_know c_9 h know_172 (fun (h : K_173.ok _) => ⟨K_173, 6, h, leaf_173⟩)) (fun (h : K_174.ok _) => split_know c_10 h know_174 (fun (h : K_175.ok _) => ⟨K_175, 6, h, leaf_175⟩))) (fun (h : K_176.ok _) => split_on c_11 h (fun (h : K_177.ok _) => split_know c_9 h know_177 (fun (h : K_178.ok _) => ⟨K_178, 6, h, leaf_178⟩)) (fun (h : K_179.ok _) => split_know c_12 h know_179 (fun (h : K_180.ok _) => ⟨K_180, 6, h, leaf_180⟩)))) (fun (h : K_181.ok _) => split_on c_17 h (fun (h : K_182.ok _) => split_on c_8 h (fun (h : K_183.ok _) => split_know c_9 h know_183 (fun (h : K_184.ok _) => ⟨K_184, 6, h, leaf_184⟩)) (fun (h : K_185.ok _) => split_know c_10 h know_185 (fun (h : K_186.ok _) => ⟨K_186, 6, h, leaf_186⟩))) (fun (h : K_187.ok _) => split_on c_18 h (fun (h : K_188.ok _) => split_know c_9 h know_188 (fun (h : K_189.ok _) => ⟨K_189, 6, h, leaf_189⟩)) (fun (h : K_190.ok _) => split_know c_19 h know_190 (fun (h : K_191.ok _) => ⟨K_191, 6, h, leaf_191⟩)))))) (fun (h : K_192.ok _) => split_on c_19 h (fun (h : K_193.ok _) => split_void (big := 20) (n := 60) h leaf_193) (fun (h : K_194.ok _) => split_on c_15 h (fun (h : K_195.ok _) => split_void (big := 20) (n := 60) h leaf_195) (fun (h : K_196.ok _) => split_on c_12 h (fun (h : K_197.ok _) => split_void (big := 20) (n := 60) h leaf_197) (fun (h : K_198.ok _) => split_on c_10 h (fun (h : K_199.ok _) => split_void (big := 20) (n := 60) h leaf_199) (fun (h : K_200.ok _) => split_on c_9 h (fun (h : K_201.ok _) => split_void (big := 20) (n := 60) h leaf_201) (fun (h : K_202.ok _) => split_on c_20 h (fun (h : K_203.ok _) => ⟨K_203, 6, h, leaf_203⟩) (fun (h : K_204.ok _) => split_on c_21 h (fun (h : K_205.ok _) => ⟨K_205, 6, h, leaf_205⟩) (fun (h : K_206.ok _) => split_on c_22 h (fun (h : K_207.ok _) => ⟨K_207, 6, h, leaf_207⟩) (fun (h : K_208.ok _) => split_on c_23 h (fun (h : K_209.ok _) => ⟨K_209, 6, h, leaf_209⟩) (fun (h : K_210.ok _) => split_on c_24 h (fun (h : K_211.ok _) => ⟨K_211, 6, h, leaf_211⟩) (fun (h : K_212.ok _) => split_on c_25 h (fun (h : K_213.ok _) => split_on c_26 h (fun (h : K_214.ok _) => ⟨K_214, 6, h, leaf_214⟩) (fun (h : K_215.ok _) => split_on c_27 h (fun (h : K_216.ok _) => ⟨K_216, 6, h, leaf_216⟩) (fun (h : K_217.ok _) => split_on c_28 h (fun (h : K_218.ok _) => ⟨K_218, 6, h, leaf_218⟩) (fun (h : K_219.ok _) => split_on c_29 h (fun (h : K_220.ok _) => ⟨K_220, 6, h, leaf_220⟩) (fun (h : K_221.ok _) => split_on c_30 h (fun (h : K_222.ok _) => ⟨K_222, 6, h, leaf_222⟩) (fun (h : K_223.ok _) => split_on c_31 h (fun (h : K_224.ok _) => ⟨K_224, 6, h, leaf_224⟩) (fun (h : K_225.ok _) => split_on c_32 h (fun (h : K_226.ok _) => ⟨K_226, 6, h, leaf_226⟩) (fun (h : K_227.ok _) => split_on c_33 h (fun (h : K_228.ok _) => split_on c_34 h (fun (h : K_229.ok _) => ⟨K_229, 6, h, leaf_229⟩) (fun (h : K_230.ok _) => ⟨K_230, 6, h, leaf_230⟩)) (fun (h : K_231.ok _) => split_on c_35 h (fun (h : K_232.ok _) => ⟨K_232, 6, h, leaf_232⟩) (fun (h : K_233.ok _) => ⟨K_233, 6, h, leaf_233⟩)))))))))) (fun (h : K_234.ok _) => split_on c_36 h (fun (h : K_235.ok _) => ⟨K_235, 6, h, leaf_235⟩) (fun (h : K_236.ok _) => split_on c_37 h (fun (h : K_237.ok _) => ⟨K_237, 6, h, leaf_237⟩) (fun (h : K_238.ok _) => split_on c_38 h (fun (h : K_239.ok _) => split_on c_26 h (fun (h : K_240.ok _) => ⟨K_240, 6, h, leaf_240⟩) (fun (h : K_241.ok _) => split_on c_39 h (fun (h : K_242.ok _) => split_know c_40 h know_242 (fun (h : K_243.ok _) => split_on c_33 h (fun (h : K_244.ok _) => split_on c_34 h (fun (h : K_245.ok _) => split_on c_41 h (fun (h : K_246.ok _) => split_on c_42 h (fun (h : K_247.ok _) => split_on c_43 h (fun (h : K_248.ok _) => ⟨K_248, 6, h, leaf_248⟩) (fun (h : K_249.ok _) => ⟨K_249, 6, h, leaf_249⟩)) (fun (h : K_250.ok _) => split_on c_43 h (fun (h : K_251.ok _) => ⟨K_251, 6, h, leaf_251⟩) (fun (h : K_252.ok _) => ⟨K_252, 6, h, leaf_252⟩))) (fun (h : K_253.ok _) => split_on c_42 h (fun (h : K_254.ok _) => split_on c_43 h (fun (h : K_255.ok _) => ⟨K_255, 6, h, leaf_255⟩) (fun (h : K_256.ok _) => ⟨K_256, 6, h, leaf_256⟩)) (fun (h : K_257.ok _) => split_on c_43 h (fun (h : K_258.ok _) => ⟨K_258, 6, h, leaf_258⟩) (fun (h : K_259.ok _) => ⟨K_259, 6, h, leaf_259⟩)))) (fun (h : K_260.ok _) => ⟨K_260, 6, h, leaf_260⟩)) (fun (h : K_261.ok _) => split_on c_35 h (fun (h : K_262.ok _) => ⟨K_262, 6, h, leaf_262⟩) (fun (h : K_263.ok _) => ⟨K_263, 6, h, leaf_263⟩)))) (fun (h : K_264.ok _) => split_know c_44 h know_264 (fun (h : K_265.ok _) => split_on c_33 h (fun (h : K_266.ok _) => split_on c_34 h (fun (h : K_267.ok _) => ⟨K_267, 6, h, leaf_267⟩) (fun (h : K_268.ok _) => ⟨K_268, 6, h, leaf_268⟩)) (fun (h : K_269.ok _) => split_on c_35 h (fun (h : K_270.ok _) => ⟨K_270, 6, h, leaf_270⟩) (fun (h : K_271.ok _) => ⟨K_271, 6, h, leaf_271⟩)))))) (fun (h : K_272.ok _) => split_on c_45 h (fun (h : K_273.ok _) => ⟨K_273, 6, h, leaf_273⟩) (fun (h : K_274.ok _) => ⟨K_274, 6, h, leaf_274⟩))))))))))))))))))))

def zeros : Env := ⟨fun _ => 0, fun _ => false, fun _ _ => 0, fun _ _ => false, fun _ => .bool false⟩
set_option maxRecDepth 100000 in
theorem lifted7 (os : Os) (started : os.Started) (H : Type) (enc : TypeId × Value → H) :
    ReturnsInHanded {} Try.checked os 7 .any (Rows.mapperTellsSpec.pre6 enc Try.prog Try.f7 Rows.mapperTellsRow.domain false) (Rows.mapperTellsSpec.post enc Try.prog Try.f7 false true false false) := by
  refine returnsInHanded_of_change (C := Try.checked) own started (by kernel_rfl) Try.func7
    (ChangeSpec.witness6 (enc := enc) (C := Try.checked) false ⟨#[], (ss7.map (SV.den zeros fun _ => 0)).toArray, []⟩ 8 (by kernel_rfl) (by kernel_rfl) (by kernel_rfl) (by kernel_rfl)) ?_
  intro W base args ds gs before hval0 hW _ _
  have hval : ∀ (j : Nat) t v, Try.f7.params[j]? = some t → args[j]? = some v → Value.okWide Try.prog W .any base t v := hval0
  have hW' := hW
  obtain ⟨p, q, hA0, hV, rfl, _, _⟩ := hW
  have hA : DataW.TrodAll enc Try.prog W 0 (fun _ => true) true Try.f7.params.toList args.toList ds p := hA0
  obtain ⟨rfl, rfl⟩ := trodVars_none hV
  have hA1 := hA
  rw [Try.params7] at hA1
  obtain ⟨v0, d0, e1, rfl, _⟩ := trodAll_one hA1
  refine (flat_plan (r := .any) (base := base) mixed sok20 args7 plan7 (w := W) (by rw [e1]; rfl) (fun j t v ht hv => hval j t v (by simpa using ht) hv)).mono fun e W' ⟨⟨v, he, hv⟩, hb⟩ => ?_
  subst hv
  subst he
  exact ⟨_, rfl, law_post (tb := 4) laid rfl (by rw [Try.params7]; intro t ht; simp at ht; first | (subst ht; exact ⟨by kernel_rfl, of_decide_eq_true (by kernel_rfl)⟩) | (rcases ht with rfl | rfl <;> exact ⟨by kernel_rfl, of_decide_eq_true (by kernel_rfl)⟩) | (rcases ht with rfl | rfl | rfl <;> exact ⟨by kernel_rfl, of_decide_eq_true (by kernel_rfl)⟩)) rfl Try.underlying4 hW' hA hb ⟨rfl, rfl, rfl⟩⟩

theorem mapperTells_holds : Rows.MapperTellsSaid :=
  OpenClaim.holds_of_wide 7 Try.f7 rfl rfl rfl rfl rfl rfl rfl ⟨rfl, rfl, rfl, rfl, rfl⟩ rfl rfl rfl rfl rfl (by kernel_rfl) Try.func7 (by kernel_rfl)
    (of_decide_eq_true (by kernel_rfl)) (by unfold Func.isWrapper; first | (rw [if_pos (by decide +kernel)]; kernel_rfl) | (rw [if_neg (by decide +kernel)]; exact ⟨rfl, rfl⟩))
    (fun os started H enc _ => lifted7 os started H enc)
#print axioms mapperTells_holds
end Go.Proofs.Ytnjjdakmpkddhaa
