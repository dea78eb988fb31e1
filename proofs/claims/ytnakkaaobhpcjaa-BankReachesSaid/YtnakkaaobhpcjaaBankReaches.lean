/- For every input BankReaches answers true. -/
import Derived.Test.YtnakkaaobhpcjaaRows
import Derived.Test.YtnakkaaobhpcjaaSx21
namespace Go.Proofs.Ytnakkaaobhpcjaa
open Go.ChangeShapes Go.WideShapes Go.ChangeAt Go.RowKit Go.Sx

theorem own : ownKnob Try.prog.godebug = none := by kernel_rfl
theorem laid : laidOutB Try.prog = true := by kernel_rfl
theorem mixed : Try.prog.follows .mixedOrders = true := by kernel_rfl

def v22 : ST := .v (.c (.cb (.or (.and (.cmp .geq (.iv 0) (.lit (.ofNat 0))) (.cmp .leq (.iv 0) (.lit (.ofNat 4)))) (.cmp .eql (.iv 0) (.lit (.ofNat 7))))))
def ss22 : List SV := [.c (.ci .i64 (.iv 0))]
def ks22 : List LK := [.i .i64]
theorem args22 : argTs Try.prog Try.f22.params.toList 0 = some (ss22, ks22) := by kernel_rfl
theorem tree22 : tree Try.prog 12 (sumsIn []) 300 22 ss22 bare 0 ⟨ks22.map LK.rg, []⟩ = .leaf v22 := by kernel_rfl
def sums22 : List Sm := ⟨22, ss22, ks22, v22⟩ :: []
theorem sok22 : SumsOk Try.prog sums22 := sums_cons mixed sums_nil args22 tree22 (by kernel_rfl)
def x16_9 : X := .not (.or (.and (.cmp .geq (.iv 0) (.lit (.ofNat 0))) (.cmp .leq (.iv 0) (.lit (.ofNat 4)))) (.cmp .eql (.iv 0) (.lit (.ofNat 7))))
def x16_12 : X := .bin .quo .i64 (.iv 2) (.lit (.ofNat 16384))
def x16_14 : X := .cmp .eql x16_12 (.lit (.ofNat 1))
def x16_15 : X := .not x16_14
def x16_17 : X := .cmp .eql x16_12 (.lit (.ofNat 2))
def x16_19 : X := .not x16_17
def x16_20 : X := .cmp .eql x16_12 (.lit (.ofNat 4))
def x16_23 : X := .not x16_20
def x16_25 : X := .cmp .eql x16_12 (.lit (.ofNat 8))
def x16_30 : X := .not x16_25
def x16_32 : X := .cmp .eql x16_12 (.lit (.ofNat 16))
def x16_53 : X := .cmp .geq (.ite x16_14 (.lit (.ofNat 0)) (.ite (.and x16_15 x16_17) (.lit (.ofNat 1)) (.ite (.and x16_15 (.and x16_19 x16_20)) (.lit (.ofNat 2)) (.ite (.and x16_15 (.and x16_19 (.and x16_23 x16_25))) (.lit (.ofNat 3)) (.ite (.and x16_15 (.and x16_19 (.and x16_23 (.and x16_30 x16_32)))) (.lit (.ofNat 4)) (.ite (.and x16_15 (.and x16_19 (.and x16_23 (.and x16_30 (.and (.not x16_32) (.cmp .eql x16_12 (.lit (.ofNat 32)))))))) (.lit (.ofNat 5)) (.lit (.negSucc 0)))))))) (.lit (.ofNat 0))
def x16_60 : X := .bin .quo .i64 (.iv 3) (.lit (.ofNat 8192))
def x16_61 : X := .cmp .eql x16_60 (.lit (.ofNat 1))
def x16_62 : X := .not x16_61
def x16_63 : X := .cmp .eql x16_60 (.lit (.ofNat 2))
def x16_65 : X := .not x16_63
def x16_66 : X := .cmp .eql x16_60 (.lit (.ofNat 4))
def x16_69 : X := .not x16_66
def x16_70 : X := .cmp .eql x16_60 (.lit (.ofNat 8))
def x16_74 : X := .not x16_70
def x16_75 : X := .cmp .eql x16_60 (.lit (.ofNat 16))
def x16_93 : X := .cmp .geq (.ite x16_61 (.lit (.ofNat 0)) (.ite (.and x16_62 x16_63) (.lit (.ofNat 1)) (.ite (.and x16_62 (.and x16_65 x16_66)) (.lit (.ofNat 2)) (.ite (.and x16_62 (.and x16_65 (.and x16_69 x16_70))) (.lit (.ofNat 3)) (.ite (.and x16_62 (.and x16_65 (.and x16_69 (.and x16_74 x16_75)))) (.lit (.ofNat 4)) (.ite (.and x16_62 (.and x16_65 (.and x16_69 (.and x16_74 (.and (.not x16_75) (.cmp .eql x16_60 (.lit (.ofNat 32)))))))) (.lit (.ofNat 5)) (.lit (.negSucc 0)))))))) (.lit (.ofNat 0))
def x16_102 : X := .or (.or (.not (.and x16_53 (.cmp .eql (.bin .rem .i64 (.iv 2) (.lit (.ofNat 16384))) (.lit (.ofNat 0))))) (.not (.and x16_93 (.cmp .eql (.bin .rem .i64 (.iv 3) (.lit (.ofNat 8192))) (.lit (.ofNat 0)))))) (.and (.bv 8) (.cmp .neq (.iv 3) (.lit (.ofNat 8192))))
def v16 : ST := .v (.c (.ci .i64 (.ite (.or x16_9 (.or x16_102 (.or (.or (.cmp .lss (.iv 1) (.lit (.ofNat 0))) (.cmp .gtr (.iv 1) (.lit (.ofNat 15)))) (.and (.not (.bv 7)) (.cmp .neq (.iv 1) (.lit (.ofNat 0))))))) (.ite x16_9 (.lit (.ofNat 6)) (.ite x16_102 (.lit (.ofNat 5)) (.lit (.ofNat 1)))) (.lit (.ofNat 0)))))
def ss16 : List SV := [.agg [.ci .i64 (.iv 0), .ci .i64 (.iv 1), .ci .i64 (.iv 2), .ci .i64 (.iv 3), .cb (.bv 4), .cb (.bv 5), .cb (.bv 6), .cb (.bv 7), .cb (.bv 8)]]
def ks16 : List LK := [.i .i64, .i .i64, .i .i64, .i .i64, .b, .b, .b, .b, .b]
theorem args16 : argTs Try.prog Try.f16.params.toList 0 = some (ss16, ks16) := by kernel_rfl
theorem tree16 : tree Try.prog 12 (sumsIn sums22) 300 16 ss16 bare 0 ⟨ks16.map LK.rg, []⟩ = .leaf v16 := by kernel_rfl
def sums16 : List Sm := ⟨16, ss16, ks16, v16⟩ :: sums22
theorem sok16 : SumsOk Try.prog sums16 := sums_cons mixed sok22 args16 tree16 (by kernel_rfl)
def x15_9 : X := .not (.or (.and (.cmp .geq (.iv 0) (.lit (.ofNat 0))) (.cmp .leq (.iv 0) (.lit (.ofNat 4)))) (.cmp .eql (.iv 0) (.lit (.ofNat 7))))
def x15_21 : X := .ite (.cmp .gtr (.iv 5) (.iv 3)) (.iv 5) (.iv 3)
def x15_23 : X := .ite (.cmp .gtr (.iv 6) x15_21) (.iv 6) x15_21
def x15_25 : X := .ite (.cmp .gtr (.iv 7) x15_23) (.iv 7) x15_23
def v15 : ST := .v (.c (.ci .i64 (.ite (.or (.or (.or (.or (.cmp .neq (.ite x15_9 (.ite x15_9 (.lit (.ofNat 6)) (.lit (.ofNat 1))) (.lit (.ofNat 0))) (.lit (.ofNat 0))) (.cmp .geq (.ite (.cmp .gtr (.iv 8) x15_25) (.iv 8) x15_25) (.lit (.ofNat 32)))) (.cmp .geq (.iv 4) (.lit (.ofNat 5)))) (.cmp .lss (.iv 26) (.lit (.ofNat 0)))) (.cmp .gtr (.iv 26) (.lit (.ofNat 100)))) (.lit (.ofNat 1)) (.lit (.ofNat 0)))))
def ss15 : List SV := [.agg [.ci .i64 (.iv 0), .cb (.bv 1), .cb (.bv 2), .ci .u8 (.iv 3), .ci .u8 (.iv 4), .ci .u8 (.iv 5), .ci .u8 (.iv 6), .ci .u8 (.iv 7), .ci .u8 (.iv 8), .ci .i64 (.iv 9), .ci .u8 (.iv 10), .ci .u8 (.iv 11), .ci .u8 (.iv 12), .ci .u8 (.iv 13), .ci .u8 (.iv 14), .ci .u8 (.iv 15), .ci .u8 (.iv 16), .ci .u8 (.iv 17), .ci .u8 (.iv 18), .ci .u8 (.iv 19), .ci .u8 (.iv 20), .ci .u8 (.iv 21), .ci .u8 (.iv 22), .cb (.bv 23), .cb (.bv 24), .cb (.bv 25), .ci .i64 (.iv 26)]]
def ks15 : List LK := [.i .i64, .b, .b, .i .u8, .i .u8, .i .u8, .i .u8, .i .u8, .i .u8, .i .i64, .i .u8, .i .u8, .i .u8, .i .u8, .i .u8, .i .u8, .i .u8, .i .u8, .i .u8, .i .u8, .i .u8, .i .u8, .i .u8, .b, .b, .b, .i .i64]
theorem args15 : argTs Try.prog Try.f15.params.toList 0 = some (ss15, ks15) := by kernel_rfl
theorem tree15 : tree Try.prog 12 (sumsIn sums16) 300 15 ss15 bare 0 ⟨ks15.map LK.rg, []⟩ = .leaf v15 := by kernel_rfl
def sums15 : List Sm := ⟨15, ss15, ks15, v15⟩ :: sums16
theorem sok15 : SumsOk Try.prog sums15 := sums_cons mixed sok16 args15 tree15 (by kernel_rfl)
def x11_7 : X := .cmp .eql (.iv 0) (.lit (.ofNat 7))
def x11_9 : X := .not (.or (.and (.cmp .geq (.iv 0) (.lit (.ofNat 0))) (.cmp .leq (.iv 0) (.lit (.ofNat 4)))) x11_7)
def x11_21 : X := .ite (.cmp .gtr (.iv 5) (.iv 3)) (.iv 5) (.iv 3)
def x11_23 : X := .ite (.cmp .gtr (.iv 6) x11_21) (.iv 6) x11_21
def x11_25 : X := .ite (.cmp .gtr (.iv 7) x11_23) (.iv 7) x11_23
def x11_43 : X := .bin .quo .i64 (.iv 27) (.lit (.ofNat 16384))
def x11_44 : X := .cmp .eql x11_43 (.lit (.ofNat 1))
def x11_45 : X := .not x11_44
def x11_47 : X := .cmp .eql x11_43 (.lit (.ofNat 2))
def x11_49 : X := .not x11_47
def x11_50 : X := .cmp .eql x11_43 (.lit (.ofNat 4))
def x11_53 : X := .not x11_50
def x11_55 : X := .cmp .eql x11_43 (.lit (.ofNat 8))
def x11_60 : X := .not x11_55
def x11_62 : X := .cmp .eql x11_43 (.lit (.ofNat 16))
def x11_81 : X := .cmp .geq (.ite x11_44 (.lit (.ofNat 0)) (.ite (.and x11_45 x11_47) (.lit (.ofNat 1)) (.ite (.and x11_45 (.and x11_49 x11_50)) (.lit (.ofNat 2)) (.ite (.and x11_45 (.and x11_49 (.and x11_53 x11_55))) (.lit (.ofNat 3)) (.ite (.and x11_45 (.and x11_49 (.and x11_53 (.and x11_60 x11_62)))) (.lit (.ofNat 4)) (.ite (.and x11_45 (.and x11_49 (.and x11_53 (.and x11_60 (.and (.not x11_62) (.cmp .eql x11_43 (.lit (.ofNat 32)))))))) (.lit (.ofNat 5)) (.lit (.negSucc 0)))))))) (.lit (.ofNat 0))
def x11_85 : X := .not (.and x11_81 (.cmp .eql (.bin .rem .i64 (.iv 27) (.lit (.ofNat 16384))) (.lit (.ofNat 0))))
def x11_93 : X := .or (.or (.or (.or (.or (.or (.cmp .neq (.ite x11_9 (.ite x11_9 (.lit (.ofNat 6)) (.lit (.ofNat 1))) (.lit (.ofNat 0))) (.lit (.ofNat 0))) (.cmp .geq (.ite (.cmp .gtr (.iv 8) x11_25) (.iv 8) x11_25) (.lit (.ofNat 32)))) (.cmp .geq (.iv 4) (.lit (.ofNat 5)))) (.cmp .lss (.iv 26) (.lit (.ofNat 0)))) (.cmp .gtr (.iv 26) (.lit (.ofNat 100)))) (.cmp .neq (.ite x11_85 (.ite x11_85 (.lit (.ofNat 5)) (.lit (.ofNat 1))) (.lit (.ofNat 0))) (.lit (.ofNat 0)))) (.cmp .lss (.iv 28) (.lit (.ofNat 32768)))
def x11_94 : X := .cmp .eql (.iv 0) (.lit (.ofNat 1))
def x11_95 : X := .cmp .eql (.iv 0) (.lit (.ofNat 2))
def x11_97 : X := .cmp .geq (.iv 28) (.lit (.ofNat 49152))
def x11_98 : X := .not x11_97
def x11_100 : X := .cmp .eql (.iv 0) (.lit (.ofNat 4))
def x11_105 : X := .bin .and .u8 (.bin .shr .u8 (.iv 5) (.lit (.ofNat 2))) (.lit (.ofNat 3))
def x11_106 : X := .cmp .lss x11_105 (.lit (.ofNat 2))
def x11_108 : X := .and (.cmp .eql x11_105 (.lit (.ofNat 2))) x11_98
def x11_114 : X := .bin .and .u8 (.iv 8) (.lit (.ofNat 15))
def x11_117 : X := .bin .rem .i64 (.iv 28) (.lit (.ofNat 32768))
def x11_120 : X := .bin .rem .i64 (.iv 28) (.lit (.ofNat 16384))
def x11_126 : X := .bin .rem .i64 (.bin .add .i64 (.bin .mul .i64 (.bin .sub .i64 x11_43 (.lit (.ofNat 1))) (.lit (.ofNat 16384))) x11_120) (.iv 27)
def x11_144 : X := .bin .and .u16 (.bin .shr .u16 (.iv 28) (.lit (.ofNat 13))) (.lit (.ofNat 3))
def x11_149 : X := .ite (.and (.cmp .gtr (.bin .and .u8 (.iv 11) (.lit (.ofNat 64))) (.lit (.ofNat 0))) (.cmp .eql (.bin .rem .i64 x11_144 (.lit (.ofNat 2))) (.lit (.ofNat 0)))) (.bin .xor .i64 x11_144 (.lit (.ofNat 2))) x11_144
def x11_150 : X := .cmp .eql x11_149 (.lit (.ofNat 0))
def x11_152 : X := .cmp .eql x11_149 (.lit (.ofNat 1))
def x11_158 : X := .bin .rem .i64 (.iv 28) (.lit (.ofNat 8192))
def x11_160 : X := .bin .rem .i64 (.bin .add .i64 (.bin .mul .i64 (.ite x11_150 (.iv 19) (.ite x11_152 (.iv 20) (.lit (.ofNat 0)))) (.lit (.ofNat 8192))) x11_158) (.iv 27)
def x11_162 : X := .bin .quo .i64 (.iv 27) (.lit (.ofNat 8192))
def v11 : ST := .tup [.c (.ci .i64 (.ite x11_93 (.lit (.ofNat 0)) (.ite (.or x11_94 (.ite x11_95 (.or x11_97 x11_98) (.or x11_100 x11_7))) (.ite x11_94 (.ite (.or x11_106 (.or x11_108 (.and (.cmp .eql x11_105 (.lit (.ofNat 3))) x11_97))) (.ite x11_106 (.bin .rem .i64 (.bin .add .i64 (.bin .mul .i64 (.bin .quo .i64 x11_114 (.lit (.ofNat 2))) (.lit (.ofNat 32768))) x11_117) (.iv 27)) (.ite x11_108 (.bin .rem .i64 (.bin .add .i64 (.lit (.ofNat 0)) x11_120) (.iv 27)) x11_126)) (.bin .rem .i64 (.bin .add .i64 (.bin .mul .i64 x11_114 (.lit (.ofNat 16384))) x11_120) (.iv 27))) (.ite x11_95 (.ite x11_97 x11_126 (.bin .rem .i64 (.bin .add .i64 (.bin .mul .i64 (.iv 10) (.lit (.ofNat 16384))) x11_120) (.iv 27))) (.ite x11_100 (.ite x11_150 x11_160 (.ite x11_152 x11_160 (.ite (.cmp .eql x11_149 (.lit (.ofNat 2))) (.bin .rem .i64 (.bin .add .i64 (.bin .mul .i64 (.bin .sub .i64 x11_162 (.lit (.ofNat 2))) (.lit (.ofNat 8192))) x11_158) (.iv 27)) (.bin .rem .i64 (.bin .add .i64 (.bin .mul .i64 (.bin .sub .i64 x11_162 (.lit (.ofNat 1))) (.lit (.ofNat 8192))) x11_158) (.iv 27))))) (.bin .rem .i64 (.bin .add .i64 (.bin .mul .i64 (.bin .and .u8 (.iv 10) (.lit (.ofNat 7))) (.lit (.ofNat 32768))) x11_117) (.iv 27))))) (.bin .rem .i64 (.bin .add .i64 (.lit (.ofNat 0)) x11_117) (.iv 27))))), .c (.ci .i64 (.ite x11_93 (.lit (.ofNat 1)) (.lit (.ofNat 0))))]
def ss11 : List SV := [.agg [.ci .i64 (.iv 0), .cb (.bv 1), .cb (.bv 2), .ci .u8 (.iv 3), .ci .u8 (.iv 4), .ci .u8 (.iv 5), .ci .u8 (.iv 6), .ci .u8 (.iv 7), .ci .u8 (.iv 8), .ci .i64 (.iv 9), .ci .u8 (.iv 10), .ci .u8 (.iv 11), .ci .u8 (.iv 12), .ci .u8 (.iv 13), .ci .u8 (.iv 14), .ci .u8 (.iv 15), .ci .u8 (.iv 16), .ci .u8 (.iv 17), .ci .u8 (.iv 18), .ci .u8 (.iv 19), .ci .u8 (.iv 20), .ci .u8 (.iv 21), .ci .u8 (.iv 22), .cb (.bv 23), .cb (.bv 24), .cb (.bv 25), .ci .i64 (.iv 26)], .c (.ci .i64 (.iv 27)), .c (.ci .u16 (.iv 28))]
def ks11 : List LK := [.i .i64, .b, .b, .i .u8, .i .u8, .i .u8, .i .u8, .i .u8, .i .u8, .i .i64, .i .u8, .i .u8, .i .u8, .i .u8, .i .u8, .i .u8, .i .u8, .i .u8, .i .u8, .i .u8, .i .u8, .i .u8, .i .u8, .b, .b, .b, .i .i64, .i .i64, .i .u16]
theorem args11 : argTs Try.prog Try.f11.params.toList 0 = some (ss11, ks11) := by kernel_rfl
theorem tree11 : tree Try.prog 12 (sumsIn sums15) 300 11 ss11 bare 0 ⟨ks11.map LK.rg, []⟩ = .leaf v11 := by kernel_rfl
def sums11 : List Sm := ⟨11, ss11, ks11, v11⟩ :: sums15
theorem sok11 : SumsOk Try.prog sums11 := sums_cons mixed sok15 args11 tree11 (by kernel_rfl)
def x13_9 : X := .not (.or (.and (.cmp .geq (.iv 0) (.lit (.ofNat 0))) (.cmp .leq (.iv 0) (.lit (.ofNat 4)))) (.cmp .eql (.iv 0) (.lit (.ofNat 7))))
def x13_21 : X := .ite (.cmp .gtr (.iv 5) (.iv 3)) (.iv 5) (.iv 3)
def x13_23 : X := .ite (.cmp .gtr (.iv 6) x13_21) (.iv 6) x13_21
def x13_25 : X := .ite (.cmp .gtr (.iv 7) x13_23) (.iv 7) x13_23
def x13_43 : X := .bin .quo .i64 (.iv 27) (.lit (.ofNat 8192))
def x13_44 : X := .cmp .eql x13_43 (.lit (.ofNat 1))
def x13_45 : X := .not x13_44
def x13_47 : X := .cmp .eql x13_43 (.lit (.ofNat 2))
def x13_49 : X := .not x13_47
def x13_50 : X := .cmp .eql x13_43 (.lit (.ofNat 4))
def x13_53 : X := .not x13_50
def x13_55 : X := .cmp .eql x13_43 (.lit (.ofNat 8))
def x13_60 : X := .not x13_55
def x13_62 : X := .cmp .eql x13_43 (.lit (.ofNat 16))
def x13_81 : X := .cmp .geq (.ite x13_44 (.lit (.ofNat 0)) (.ite (.and x13_45 x13_47) (.lit (.ofNat 1)) (.ite (.and x13_45 (.and x13_49 x13_50)) (.lit (.ofNat 2)) (.ite (.and x13_45 (.and x13_49 (.and x13_53 x13_55))) (.lit (.ofNat 3)) (.ite (.and x13_45 (.and x13_49 (.and x13_53 (.and x13_60 x13_62)))) (.lit (.ofNat 4)) (.ite (.and x13_45 (.and x13_49 (.and x13_53 (.and x13_60 (.and (.not x13_62) (.cmp .eql x13_43 (.lit (.ofNat 32)))))))) (.lit (.ofNat 5)) (.lit (.negSucc 0)))))))) (.lit (.ofNat 0))
def x13_85 : X := .not (.and x13_81 (.cmp .eql (.bin .rem .i64 (.iv 27) (.lit (.ofNat 8192))) (.lit (.ofNat 0))))
def x13_92 : X := .or (.or (.or (.or (.or (.or (.cmp .neq (.ite x13_9 (.ite x13_9 (.lit (.ofNat 6)) (.lit (.ofNat 1))) (.lit (.ofNat 0))) (.lit (.ofNat 0))) (.cmp .geq (.ite (.cmp .gtr (.iv 8) x13_25) (.iv 8) x13_25) (.lit (.ofNat 32)))) (.cmp .geq (.iv 4) (.lit (.ofNat 5)))) (.cmp .lss (.iv 26) (.lit (.ofNat 0)))) (.cmp .gtr (.iv 26) (.lit (.ofNat 100)))) (.cmp .neq (.ite x13_85 (.ite x13_85 (.lit (.ofNat 5)) (.lit (.ofNat 1))) (.lit (.ofNat 0))) (.lit (.ofNat 0)))) (.cmp .geq (.iv 28) (.lit (.ofNat 8192)))
def x13_93 : X := .cmp .eql (.iv 0) (.lit (.ofNat 3))
def x13_94 : X := .cmp .eql (.iv 0) (.lit (.ofNat 1))
def x13_97 : X := .and x13_94 (.cmp .eql (.bin .and .u8 (.iv 5) (.lit (.ofNat 16))) (.lit (.ofNat 0)))
def x13_98 : X := .cmp .eql (.iv 0) (.lit (.ofNat 4))
def x13_104 : X := .bin .shr .u16 (.iv 28) (.lit (.ofNat 10))
def x13_106 : X := .ite (.cmp .gtr (.bin .and .u8 (.iv 11) (.lit (.ofNat 128))) (.lit (.ofNat 0))) (.bin .xor .i64 x13_104 (.lit (.ofNat 4))) x13_104
def x13_107 : X := .cmp .lss x13_106 (.lit (.ofNat 4))
def x13_109 : X := .cmp .eql (.bin .quo .i64 x13_106 (.lit (.ofNat 2))) (.lit (.ofNat 0))
def x13_110 : X := .and x13_107 x13_109
def x13_112 : X := .and x13_107 (.not x13_109)
def x13_113 : X := .not x13_107
def x13_114 : X := .bin .sub .i64 x13_106 (.lit (.ofNat 2))
def x13_115 : X := .cmp .eql x13_114 (.lit (.ofNat 2))
def x13_122 : X := .or x13_93 (.or x13_97 (.or x13_94 (.and x13_98 (.or x13_110 (.or x13_112 (.and x13_113 x13_115))))))
def x13_123 : X := .not x13_93
def x13_124 : X := .not x13_97
def x13_125 : X := .not x13_94
def x13_126 : X := .not x13_115
def x13_127 : X := .cmp .eql x13_114 (.lit (.ofNat 3))
def x13_137 : X := .bin .rem .i64 (.iv 28) (.lit (.ofNat 8192))
def x13_149 : X := .bin .rem .i64 (.iv 28) (.lit (.ofNat 4096))
def x13_160 : X := .bin .rem .i64 (.iv 28) (.lit (.ofNat 2048))
def x13_171 : X := .bin .rem .i64 (.iv 28) (.lit (.ofNat 1024))
def x13_184 : X := .not x13_127
def x13_185 : X := .cmp .eql x13_114 (.lit (.ofNat 4))
def v13 : ST := .tup [.c (.ci .i64 (.ite x13_92 (.lit (.ofNat 0)) (.ite (.or x13_122 (.and x13_123 (.and x13_124 (.and x13_125 (.and x13_98 (.and x13_113 (.and x13_126 x13_127))))))) (.ite x13_122 (.ite x13_93 (.bin .rem .i64 (.bin .add .i64 (.bin .mul .i64 (.iv 10) (.lit (.ofNat 8192))) x13_137) (.iv 27)) (.ite x13_97 (.bin .rem .i64 (.bin .add .i64 (.bin .mul .i64 (.bin .quo .u8 (.iv 6) (.lit (.ofNat 2))) (.lit (.ofNat 8192))) x13_137) (.iv 27)) (.ite x13_94 (.ite (.cmp .eql (.bin .shr .u16 (.iv 28) (.lit (.ofNat 12))) (.lit (.ofNat 0))) (.bin .rem .i64 (.bin .add .i64 (.bin .mul .i64 (.iv 6) (.lit (.ofNat 4096))) x13_149) (.iv 27)) (.bin .rem .i64 (.bin .add .i64 (.bin .mul .i64 (.iv 7) (.lit (.ofNat 4096))) x13_149) (.iv 27))) (.ite x13_110 (.bin .rem .i64 (.bin .add .i64 (.bin .mul .i64 (.bin .quo .u8 (.iv 13) (.lit (.ofNat 2))) (.lit (.ofNat 2048))) x13_160) (.iv 27)) (.ite x13_112 (.bin .rem .i64 (.bin .add .i64 (.bin .mul .i64 (.bin .quo .u8 (.iv 14) (.lit (.ofNat 2))) (.lit (.ofNat 2048))) x13_160) (.iv 27)) (.bin .rem .i64 (.bin .add .i64 (.bin .mul .i64 (.iv 15) (.lit (.ofNat 1024))) x13_171) (.iv 27))))))) (.bin .rem .i64 (.bin .add .i64 (.bin .mul .i64 (.iv 16) (.lit (.ofNat 1024))) x13_171) (.iv 27))) (.ite (.and x13_123 (.and x13_124 (.and x13_125 (.and x13_98 (.and x13_113 (.and x13_126 (.and x13_184 x13_185))))))) (.bin .rem .i64 (.bin .add .i64 (.bin .mul .i64 (.iv 17) (.lit (.ofNat 1024))) x13_171) (.iv 27)) (.ite (.and x13_123 (.and x13_124 (.and x13_125 (.and x13_98 (.and x13_113 (.and x13_126 (.and x13_184 (.not x13_185)))))))) (.bin .rem .i64 (.bin .add .i64 (.bin .mul .i64 (.iv 18) (.lit (.ofNat 1024))) x13_171) (.iv 27)) (.bin .rem .i64 (.bin .add .i64 (.lit (.ofNat 0)) x13_137) (.iv 27))))))), .c (.ci .i64 (.ite x13_92 (.lit (.ofNat 1)) (.lit (.ofNat 0))))]
def ss13 : List SV := [.agg [.ci .i64 (.iv 0), .cb (.bv 1), .cb (.bv 2), .ci .u8 (.iv 3), .ci .u8 (.iv 4), .ci .u8 (.iv 5), .ci .u8 (.iv 6), .ci .u8 (.iv 7), .ci .u8 (.iv 8), .ci .i64 (.iv 9), .ci .u8 (.iv 10), .ci .u8 (.iv 11), .ci .u8 (.iv 12), .ci .u8 (.iv 13), .ci .u8 (.iv 14), .ci .u8 (.iv 15), .ci .u8 (.iv 16), .ci .u8 (.iv 17), .ci .u8 (.iv 18), .ci .u8 (.iv 19), .ci .u8 (.iv 20), .ci .u8 (.iv 21), .ci .u8 (.iv 22), .cb (.bv 23), .cb (.bv 24), .cb (.bv 25), .ci .i64 (.iv 26)], .c (.ci .i64 (.iv 27)), .c (.ci .u16 (.iv 28))]
def ks13 : List LK := [.i .i64, .b, .b, .i .u8, .i .u8, .i .u8, .i .u8, .i .u8, .i .u8, .i .i64, .i .u8, .i .u8, .i .u8, .i .u8, .i .u8, .i .u8, .i .u8, .i .u8, .i .u8, .i .u8, .i .u8, .i .u8, .i .u8, .b, .b, .b, .i .i64, .i .i64, .i .u16]
theorem args13 : argTs Try.prog Try.f13.params.toList 0 = some (ss13, ks13) := by kernel_rfl
theorem tree13 : tree Try.prog 12 (sumsIn sums11) 300 13 ss13 bare 0 ⟨ks13.map LK.rg, []⟩ = .leaf v13 := by kernel_rfl
def sums13 : List Sm := ⟨13, ss13, ks13, v13⟩ :: sums11
theorem sok13 : SumsOk Try.prog sums13 := sums_cons mixed sok11 args13 tree13 (by kernel_rfl)
def v10 : ST := .v (.c (.cb (.bl true)))
def ss10 : List SV := []
def ks10 : List LK := []
theorem args10 : argTs Try.prog Try.f10.params.toList 0 = some (ss10, ks10) := by kernel_rfl
theorem tree10 : tree Try.prog 12 (sumsIn sums13) 300 10 ss10 bare 0 ⟨ks10.map LK.rg, []⟩ = .leaf v10 := by kernel_rfl
def sums10 : List Sm := ⟨10, ss10, ks10, v10⟩ :: sums13
theorem sok10 : SumsOk Try.prog sums10 := sums_cons mixed sok13 args10 tree10 (by kernel_rfl)
def ss8 : List SV := [.c (.ci .u8 (.iv 0)), .c (.ci .u8 (.iv 1))]
def ks8 : List LK := [.i .u8, .i .u8]
theorem args8 : argTs Try.prog Try.f8.params.toList 0 = some (ss8, ks8) := by kernel_rfl
def T (K : Known) : Prop := (tree Try.prog 0 (sumsIn sums10) 300 8 ss8 bare 6 K).prove 300 1000 K = true
def V (K : Known) : Prop := X.prove 20 60 K (.bl false) = true
def c_0 : X := .cmp .eql (.bin .rem .u8 (.iv 0) (.lit (.ofNat 6))) (.lit (.ofNat 0))
def c_1 : X := .cmp .eql (.bin .rem .u8 (.iv 0) (.lit (.ofNat 6))) (.lit (.ofNat 1))
def c_2 : X := .cmp .eql (.bin .rem .u8 (.iv 0) (.lit (.ofNat 6))) (.lit (.ofNat 2))
def c_3 : X := .cmp .eql (.bin .rem .u8 (.iv 0) (.lit (.ofNat 6))) (.lit (.ofNat 3))
def c_4 : X := .cmp .eql (.bin .rem .u8 (.iv 0) (.lit (.ofNat 6))) (.lit (.ofNat 4))
def c_5 : X := .cmp .eql (.bin .rem .u8 (.iv 0) (.lit (.ofNat 6))) (.lit (.ofNat 5))
def K_0 : Known := ⟨ks8.map LK.rg, []⟩
def K_1 : Known := K_0.assume c_0 true
def K_2 : Known := K_0.assume c_0 false
def K_3 : Known := K_2.assume c_1 true
def K_4 : Known := K_2.assume c_1 false
def K_5 : Known := K_4.assume c_2 true
def K_6 : Known := K_4.assume c_2 false
def K_7 : Known := K_6.assume c_3 true
def K_8 : Known := K_6.assume c_3 false
def K_9 : Known := K_8.assume c_4 true
def K_10 : Known := K_8.assume c_4 false
def K_11 : Known := K_10.assume c_5 true
theorem leaf_1 : T K_1 := by unfold T; kernel_rfl
theorem leaf_3 : T K_3 := by unfold T; kernel_rfl
theorem leaf_5 : T K_5 := by unfold T; kernel_rfl
theorem leaf_7 : T K_7 := by unfold T; kernel_rfl
theorem leaf_9 : T K_9 := by unfold T; kernel_rfl
theorem leaf_11 : T K_11 := by unfold T; kernel_rfl
theorem know_10 : X.prove 300 1000 K_10 c_5 = true := by kernel_rfl
theorem plan8 : ∀ ρ, (⟨ks8.map LK.rg, []⟩ : Known).ok ρ → ∃ K d, K.ok ρ ∧ (tree Try.prog 0 (sumsIn sums10) 300 8 ss8 bare d K).prove 300 1000 K = true := fun _ h => split_on c_0 h (fun (h : K_1.ok _) => ⟨K_1, 6, h, leaf_1⟩) (fun (h : K_2.ok _) => split_on c_1 h (fun (h : K_3.ok _) => ⟨K_3, 6, h, leaf_3⟩) (fun (h : K_4.ok _) => split_on c_2 h (fun (h : K_5.ok _) => ⟨K_5, 6, h, leaf_5⟩) (fun (h : K_6.ok _) => split_on c_3 h (fun (h : K_7.ok _) => ⟨K_7, 6, h, leaf_7⟩) (fun (h : K_8.ok _) => split_on c_4 h (fun (h : K_9.ok _) => ⟨K_9, 6, h, leaf_9⟩) (fun (h : K_10.ok _) => split_know c_5 h know_10 (fun (h : K_11.ok _) => ⟨K_11, 6, h, leaf_11⟩))))))

def zeros : Env := ⟨fun _ => 0, fun _ => false, fun _ _ => 0, fun _ _ => false, fun _ => .bool false⟩
set_option maxRecDepth 100000 in
theorem lifted8 (os : Os) (started : os.Started) (H : Type) (enc : TypeId × Value → H) :
    ReturnsInHanded {} Try.checked os 8 .any (Rows.bankReachesSpec.pre6 enc Try.prog Try.f8 Rows.bankReachesRow.domain false) (Rows.bankReachesSpec.post enc Try.prog Try.f8 false true false false) := by
  refine returnsInHanded_of_change (C := Try.checked) own started (by kernel_rfl) Try.func8
    (ChangeSpec.witness6 (enc := enc) (C := Try.checked) false ⟨#[], (ss8.map (SV.den zeros fun _ => 0)).toArray, []⟩ 8 (by kernel_rfl) (by kernel_rfl) (by kernel_rfl) (by kernel_rfl)) ?_
  intro W base args ds gs before hval0 hW _ _
  have hval : ∀ (j : Nat) t v, Try.f8.params[j]? = some t → args[j]? = some v → Value.okWide Try.prog W .any base t v := hval0
  have hW' := hW
  obtain ⟨p, q, hA0, hV, rfl, _, _⟩ := hW
  have hA : DataW.TrodAll enc Try.prog W 0 (fun _ => true) true Try.f8.params.toList args.toList ds p := hA0
  obtain ⟨rfl, rfl⟩ := trodVars_none hV
  have hA1 := hA
  rw [Try.params8] at hA1
  obtain ⟨v0, v1, d0, d1, p0, p1, e1, rfl, _, _, _⟩ := trodAll_two hA1
  refine (flat_plan (r := .any) (base := base) mixed sok10 args8 plan8 (w := W) (by rw [e1]; rfl) (fun j t v ht hv => hval j t v (by simpa using ht) hv)).mono fun e W' ⟨⟨v, he, hv⟩, hb⟩ => ?_
  subst hv
  subst he
  exact ⟨_, rfl, law_post (tb := 4) laid rfl (by rw [Try.params8]; intro t ht; simp at ht; first | (subst ht; exact ⟨by kernel_rfl, of_decide_eq_true (by kernel_rfl)⟩) | (rcases ht with rfl | rfl <;> exact ⟨by kernel_rfl, of_decide_eq_true (by kernel_rfl)⟩) | (rcases ht with rfl | rfl | rfl <;> exact ⟨by kernel_rfl, of_decide_eq_true (by kernel_rfl)⟩)) rfl Try.underlying4 hW' hA hb ⟨rfl, rfl, rfl⟩⟩

theorem bankReaches_holds : Rows.BankReachesSaid :=
  OpenClaim.holds_of_wide 8 Try.f8 rfl rfl rfl rfl rfl rfl rfl ⟨rfl, rfl, rfl, rfl, rfl⟩ rfl rfl rfl rfl rfl (by kernel_rfl) Try.func8 (by kernel_rfl)
    (of_decide_eq_true (by kernel_rfl)) (by unfold Func.isWrapper; first | (rw [if_pos (by decide +kernel)]; kernel_rfl) | (rw [if_neg (by decide +kernel)]; exact ⟨rfl, rfl⟩))
    (fun os started H enc _ => lifted8 os started H enc)
#print axioms bankReaches_holds
end Go.Proofs.Ytnakkaaobhpcjaa
