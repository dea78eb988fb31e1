/- For every input BankLast answers true. -/
import Derived.Test.YtnakkaaobhpcjaaRows
import Derived.Test.YtnakkaaobhpcjaaSx21
namespace Go.Proofs.Ytnakkaaobhpcjaa
open Go.ChangeShapes Go.WideShapes Go.ChangeAt Go.RowKit Go.Sx

theorem own : ownKnob Try.prog.godebug = none := by kernel_rfl
theorem laid : laidOutB Try.prog = true := by kernel_rfl
theorem mixed : Try.prog.follows .mixedOrders = true := by kernel_rfl

def x9_2 : X := .cmp .eql (.iv 0) (.iv 1)
def x9_5 : X := .bin .mul .i64 (.lit (.ofNat 2)) (.iv 1)
def x9_6 : X := .cmp .eql (.iv 0) x9_5
def x9_8 : X := .bin .mul .i64 (.lit (.ofNat 2)) x9_5
def x9_9 : X := .cmp .eql (.iv 0) x9_8
def x9_11 : X := .bin .mul .i64 (.lit (.ofNat 2)) x9_8
def x9_12 : X := .cmp .eql (.iv 0) x9_11
def x9_14 : X := .bin .mul .i64 (.lit (.ofNat 2)) x9_11
def x9_15 : X := .cmp .eql (.iv 0) x9_14
def v9 : ST := .v (.c (.cb (.or x9_2 (.and (.not x9_2) (.or x9_6 (.and (.not x9_6) (.or x9_9 (.and (.not x9_9) (.or x9_12 (.and (.not x9_12) (.or x9_15 (.and (.not x9_15) (.cmp .eql (.iv 0) (.bin .mul .i64 (.lit (.ofNat 2)) x9_14))))))))))))))
def ss9 : List SV := [.c (.ci .i64 (.iv 0)), .c (.ci .i64 (.iv 1))]
def ks9 : List LK := [.i .i64, .i .i64]
theorem args9 : argTs Try.prog Try.f9.params.toList 0 = some (ss9, ks9) := by kernel_rfl
theorem tree9 : tree Try.prog 12 (sumsIn []) 300 9 ss9 bare 0 ⟨ks9.map LK.rg, []⟩ = .leaf v9 := by kernel_rfl
def sums9 : List Sm := ⟨9, ss9, ks9, v9⟩ :: []
theorem sok9 : SumsOk Try.prog sums9 := sums_cons mixed sums_nil args9 tree9 (by kernel_rfl)
def v22 : ST := .v (.c (.cb (.or (.and (.cmp .geq (.iv 0) (.lit (.ofNat 0))) (.cmp .leq (.iv 0) (.lit (.ofNat 4)))) (.cmp .eql (.iv 0) (.lit (.ofNat 7))))))
def ss22 : List SV := [.c (.ci .i64 (.iv 0))]
def ks22 : List LK := [.i .i64]
theorem args22 : argTs Try.prog Try.f22.params.toList 0 = some (ss22, ks22) := by kernel_rfl
theorem tree22 : tree Try.prog 12 (sumsIn sums9) 300 22 ss22 bare 0 ⟨ks22.map LK.rg, []⟩ = .leaf v22 := by kernel_rfl
def sums22 : List Sm := ⟨22, ss22, ks22, v22⟩ :: sums9
theorem sok22 : SumsOk Try.prog sums22 := sums_cons mixed sok9 args22 tree22 (by kernel_rfl)
def x16_9 : X := .not (.or (.and (.cmp .geq (.iv 0) (.lit (.ofNat 0))) (.cmp .leq (.iv 0) (.lit (.ofNat 4)))) (.cmp .eql (.iv 0) (.lit (.ofNat 7))))
def x16_12 : X := .bin .quo .i64 (.iv 2) (.lit (.ofNat 16384))
def x16_14 : X := .cmp .eql x16_12 (.lit (.ofNat 1))
def x16_15 : X := .not x16_14
def x16_17 : X := .cmp .eql x16_12 (.lit (.ofNat 2))
def x16_19 : X := .not x16_17
def x16_20 : X := .cmp .eql x16_12 (.lit (.ofNat 4))
def x16_23 : X := .not x16_20
def x16_25 : X := .cmp .eql x16_12 (.lit (.ofNat 8))
def x16_30 : X := .not x16_25
def x16_32 : X := .cmp .eql x16_12 (.lit (.ofNat 16))
def x16_53 : X := .cmp .geq (.ite x16_14 (.lit (.ofNat 0)) (.ite (.and x16_15 x16_17) (.lit (.ofNat 1)) (.ite (.and x16_15 (.and x16_19 x16_20)) (.lit (.ofNat 2)) (.ite (.and x16_15 (.and x16_19 (.and x16_23 x16_25))) (.lit (.ofNat 3)) (.ite (.and x16_15 (.and x16_19 (.and x16_23 (.and x16_30 x16_32)))) (.lit (.ofNat 4)) (.ite (.and x16_15 (.and x16_19 (.and x16_23 (.and x16_30 (.and (.not x16_32) (.cmp .eql x16_12 (.lit (.ofNat 32)))))))) (.lit (.ofNat 5)) (.lit (.negSucc 0)))))))) (.lit (.ofNat 0))
def x16_60 : X := .bin .quo .i64 (.iv 3) (.lit (.ofNat 8192))
def x16_61 : X := .cmp .eql x16_60 (.lit (.ofNat 1))
def x16_62 : X := .not x16_61
def x16_63 : X := .cmp .eql x16_60 (.lit (.ofNat 2))
def x16_65 : X := .not x16_63
def x16_66 : X := .cmp .eql x16_60 (.lit (.ofNat 4))
def x16_69 : X := .not x16_66
def x16_70 : X := .cmp .eql x16_60 (.lit (.ofNat 8))
def x16_74 : X := .not x16_70
def x16_75 : X := .cmp .eql x16_60 (.lit (.ofNat 16))
def x16_93 : X := .cmp .geq (.ite x16_61 (.lit (.ofNat 0)) (.ite (.and x16_62 x16_63) (.lit (.ofNat 1)) (.ite (.and x16_62 (.and x16_65 x16_66)) (.lit (.ofNat 2)) (.ite (.and x16_62 (.and x16_65 (.and x16_69 x16_70))) (.lit (.ofNat 3)) (.ite (.and x16_62 (.and x16_65 (.and x16_69 (.and x16_74 x16_75)))) (.lit (.ofNat 4)) (.ite (.and x16_62 (.and x16_65 (.and x16_69 (.and x16_74 (.and (.not x16_75) (.cmp .eql x16_60 (.lit (.ofNat 32)))))))) (.lit (.ofNat 5)) (.lit (.negSucc 0)))))))) (.lit (.ofNat 0))
def x16_102 : X := .or (.or (.not (.and x16_53 (.cmp .eql (.bin .rem .i64 (.iv 2) (.lit (.ofNat 16384))) (.lit (.ofNat 0))))) (.not (.and x16_93 (.cmp .eql (.bin .rem .i64 (.iv 3) (.lit (.ofNat 8192))) (.lit (.ofNat 0)))))) (.and (.bv 8) (.cmp .neq (.iv 3) (.lit (.ofNat 8192))))
def v16 : ST := .v (.c (.ci .i64 (.ite (.or x16_9 (.or x16_102 (.or (.or (.cmp .lss (.iv 1) (.lit (.ofNat 0))) (.cmp .gtr (.iv 1) (.lit (.ofNat 15)))) (.and (.not (.bv 7)) (.cmp .neq (.iv 1) (.lit (.ofNat 0))))))) (.ite x16_9 (.lit (.ofNat 6)) (.ite x16_102 (.lit (.ofNat 5)) (.lit (.ofNat 1)))) (.lit (.ofNat 0)))))
def ss16 : List SV := [.agg [.ci .i64 (.iv 0), .ci .i64 (.iv 1), .ci .i64 (.iv 2), .ci .i64 (.iv 3), .cb (.bv 4), .cb (.bv 5), .cb (.bv 6), .cb (.bv 7), .cb (.bv 8)]]
def ks16 : List LK := [.i .i64, .i .i64, .i .i64, .i .i64, .b, .b, .b, .b, .b]
theorem args16 : argTs Try.prog Try.f16.params.toList 0 = some (ss16, ks16) := by kernel_rfl
theorem tree16 : tree Try.prog 12 (sumsIn sums22) 300 16 ss16 bare 0 ⟨ks16.map LK.rg, []⟩ = .leaf v16 := by kernel_rfl
def sums16 : List Sm := ⟨16, ss16, ks16, v16⟩ :: sums22
theorem sok16 : SumsOk Try.prog sums16 := sums_cons mixed sok22 args16 tree16 (by kernel_rfl)
def x15_9 : X := .not (.or (.and (.cmp .geq (.iv 0) (.lit (.ofNat 0))) (.cmp .leq (.iv 0) (.lit (.ofNat 4)))) (.cmp .eql (.iv 0) (.lit (.ofNat 7))))
def x15_21 : X := .ite (.cmp .gtr (.iv 5) (.iv 3)) (.iv 5) (.iv 3)
def x15_23 : X := .ite (.cmp .gtr (.iv 6) x15_21) (.iv 6) x15_21
def x15_25 : X := .ite (.cmp .gtr (.iv 7) x15_23) (.iv 7) x15_23
def v15 : ST := .v (.c (.ci .i64 (.ite (.or (.or (.or (.or (.cmp .neq (.ite x15_9 (.ite x15_9 (.lit (.ofNat 6)) (.lit (.ofNat 1))) (.lit (.ofNat 0))) (.lit (.ofNat 0))) (.cmp .geq (.ite (.cmp .gtr (.iv 8) x15_25) (.iv 8) x15_25) (.lit (.ofNat 32)))) (.cmp .geq (.iv 4) (.lit (.ofNat 5)))) (.cmp .lss (.iv 26) (.lit (.ofNat 0)))) (.cmp .gtr (.iv 26) (.lit (.ofNat 100)))) (.lit (.ofNat 1)) (.lit (.ofNat 0)))))
def ss15 : List SV := [.agg [.ci .i64 (.iv 0), .cb (.bv 1), .cb (.bv 2), .ci .u8 (.iv 3), .ci .u8 (.iv 4), .ci .u8 (.iv 5), .ci .u8 (.iv 6), .ci .u8 (.iv 7), .ci .u8 (.iv 8), .ci .i64 (.iv 9), .ci .u8 (.iv 10), .ci .u8 (.iv 11), .ci .u8 (.iv 12), .ci .u8 (.iv 13), .ci .u8 (.iv 14), .ci .u8 (.iv 15), .ci .u8 (.iv 16), .ci .u8 (.iv 17), .ci .u8 (.iv 18), .ci .u8 (.iv 19), .ci .u8 (.iv 20), .ci .u8 (.iv 21), .ci .u8 (.iv 22), .cb (.bv 23), .cb (.bv 24), .cb (.bv 25), .ci .i64 (.iv 26)]]
def ks15 : List LK := [.i .i64, .b, .b, .i .u8, .i .u8, .i .u8, .i .u8, .i .u8, .i .u8, .i .i64, .i .u8, .i .u8, .i .u8, .i .u8, .i .u8, .i .u8, .i .u8, .i .u8, .i .u8, .i .u8, .i .u8, .i .u8, .i .u8, .b, .b, .b, .i .i64]
theorem args15 : argTs Try.prog Try.f15.params.toList 0 = some (ss15, ks15) := by kernel_rfl
theorem tree15 : tree Try.prog 12 (sumsIn sums16) 300 15 ss15 bare 0 ⟨ks15.map LK.rg, []⟩ = .leaf v15 := by kernel_rfl
def sums15 : List Sm := ⟨15, ss15, ks15, v15⟩ :: sums16
theorem sok15 : SumsOk Try.prog sums15 := sums_cons mixed sok16 args15 tree15 (by kernel_rfl)
def x11_7 : X := .cmp .eql (.iv 0) (.lit (.ofNat 7))
def x11_9 : X := .not (.or (.and (.cmp .geq (.iv 0) (.lit (.ofNat 0))) (.cmp .leq (.iv 0) (.lit (.ofNat 4)))) x11_7)
def x11_21 : X := .ite (.cmp .gtr (.iv 5) (.iv 3)) (.iv 5) (.iv 3)
def x11_23 : X := .ite (.cmp .gtr (.iv 6) x11_21) (.iv 6) x11_21
def x11_25 : X := .ite (.cmp .gtr (.iv 7) x11_23) (.iv 7) x11_23
def x11_43 : X := .bin .quo .i64 (.iv 27) (.lit (.ofNat 16384))
def x11_44 : X := .cmp .eql x11_43 (.lit (.ofNat 1))
def x11_45 : X := .not x11_44
def x11_47 : X := .cmp .eql x11_43 (.lit (.ofNat 2))
def x11_49 : X := .not x11_47
def x11_50 : X := .cmp .eql x11_43 (.lit (.ofNat 4))
def x11_53 : X := .not x11_50
def x11_55 : X := .cmp .eql x11_43 (.lit (.ofNat 8))
def x11_60 : X := .not x11_55
def x11_62 : X := .cmp .eql x11_43 (.lit (.ofNat 16))
def x11_81 : X := .cmp .geq (.ite x11_44 (.lit (.ofNat 0)) (.ite (.and x11_45 x11_47) (.lit (.ofNat 1)) (.ite (.and x11_45 (.and x11_49 x11_50)) (.lit (.ofNat 2)) (.ite (.and x11_45 (.and x11_49 (.and x11_53 x11_55))) (.lit (.ofNat 3)) (.ite (.and x11_45 (.and x11_49 (.and x11_53 (.and x11_60 x11_62)))) (.lit (.ofNat 4)) (.ite (.and x11_45 (.and x11_49 (.and x11_53 (.and x11_60 (.and (.not x11_62) (.cmp .eql x11_43 (.lit (.ofNat 32)))))))) (.lit (.ofNat 5)) (.lit (.negSucc 0)))))))) (.lit (.ofNat 0))
def x11_85 : X := .not (.and x11_81 (.cmp .eql (.bin .rem .i64 (.iv 27) (.lit (.ofNat 16384))) (.lit (.ofNat 0))))
def x11_93 : X := .or (.or (.or (.or (.or (.or (.cmp .neq (.ite x11_9 (.ite x11_9 (.lit (.ofNat 6)) (.lit (.ofNat 1))) (.lit (.ofNat 0))) (.lit (.ofNat 0))) (.cmp .geq (.ite (.cmp .gtr (.iv 8) x11_25) (.iv 8) x11_25) (.lit (.ofNat 32)))) (.cmp .geq (.iv 4) (.lit (.ofNat 5)))) (.cmp .lss (.iv 26) (.lit (.ofNat 0)))) (.cmp .gtr (.iv 26) (.lit (.ofNat 100)))) (.cmp .neq (.ite x11_85 (.ite x11_85 (.lit (.ofNat 5)) (.lit (.ofNat 1))) (.lit (.ofNat 0))) (.lit (.ofNat 0)))) (.cmp .lss (.iv 28) (.lit (.ofNat 32768)))
def x11_94 : X := .cmp .eql (.iv 0) (.lit (.ofNat 1))
def x11_95 : X := .cmp .eql (.iv 0) (.lit (.ofNat 2))
def x11_97 : X := .cmp .geq (.iv 28) (.lit (.ofNat 49152))
def x11_98 : X := .not x11_97
def x11_100 : X := .cmp .eql (.iv 0) (.lit (.ofNat 4))
def x11_105 : X := .bin .and .u8 (.bin .shr .u8 (.iv 5) (.lit (.ofNat 2))) (.lit (.ofNat 3))
def x11_106 : X := .cmp .lss x11_105 (.lit (.ofNat 2))
def x11_108 : X := .and (.cmp .eql x11_105 (.lit (.ofNat 2))) x11_98
def x11_114 : X := .bin .and .u8 (.iv 8) (.lit (.ofNat 15))
def x11_117 : X := .bin .rem .i64 (.iv 28) (.lit (.ofNat 32768))
def x11_120 : X := .bin .rem .i64 (.iv 28) (.lit (.ofNat 16384))
def x11_126 : X := .bin .rem .i64 (.bin .add .i64 (.bin .mul .i64 (.bin .sub .i64 x11_43 (.lit (.ofNat 1))) (.lit (.ofNat 16384))) x11_120) (.iv 27)
def x11_144 : X := .bin .and .u16 (.bin .shr .u16 (.iv 28) (.lit (.ofNat 13))) (.lit (.ofNat 3))
def x11_149 : X := .ite (.and (.cmp .gtr (.bin .and .u8 (.iv 11) (.lit (.ofNat 64))) (.lit (.ofNat 0))) (.cmp .eql (.bin .rem .i64 x11_144 (.lit (.ofNat 2))) (.lit (.ofNat 0)))) (.bin .xor .i64 x11_144 (.lit (.ofNat 2))) x11_144
def x11_150 : X := .cmp .eql x11_149 (.lit (.ofNat 0))
def x11_152 : X := .cmp .eql x11_149 (.lit (.ofNat 1))
def x11_158 : X := .bin .rem .i64 (.iv 28) (.lit (.ofNat 8192))
def x11_160 : X := .bin .rem .i64 (.bin .add .i64 (.bin .mul .i64 (.ite x11_150 (.iv 19) (.ite x11_152 (.iv 20) (.lit (.ofNat 0)))) (.lit (.ofNat 8192))) x11_158) (.iv 27)
def x11_162 : X := .bin .quo .i64 (.iv 27) (.lit (.ofNat 8192))
def v11 : ST := .tup [.c (.ci .i64 (.ite x11_93 (.lit (.ofNat 0)) (.ite (.or x11_94 (.ite x11_95 (.or x11_97 x11_98) (.or x11_100 x11_7))) (.ite x11_94 (.ite (.or x11_106 (.or x11_108 (.and (.cmp .eql x11_105 (.lit (.ofNat 3))) x11_97))) (.ite x11_106 (.bin .rem .i64 (.bin .add .i64 (.bin .mul .i64 (.bin .quo .i64 x11_114 (.lit (.ofNat 2))) (.lit (.ofNat 32768))) x11_117) (.iv 27)) (.ite x11_108 (.bin .rem .i64 (.bin .add .i64 (.lit (.ofNat 0)) x11_120) (.iv 27)) x11_126)) (.bin .rem .i64 (.bin .add .i64 (.bin .mul .i64 x11_114 (.lit (.ofNat 16384))) x11_120) (.iv 27))) (.ite x11_95 (.ite x11_97 x11_126 (.bin .rem .i64 (.bin .add .i64 (.bin .mul .i64 (.iv 10) (.lit (.ofNat 16384))) x11_120) (.iv 27))) (.ite x11_100 (.ite x11_150 x11_160 (.ite x11_152 x11_160 (.ite (.cmp .eql x11_149 (.lit (.ofNat 2))) (.bin .rem .i64 (.bin .add .i64 (.bin .mul .i64 (.bin .sub .i64 x11_162 (.lit (.ofNat 2))) (.lit (.ofNat 8192))) x11_158) (.iv 27)) (.bin .rem .i64 (.bin .add .i64 (.bin .mul .i64 (.bin .sub .i64 x11_162 (.lit (.ofNat 1))) (.lit (.ofNat 8192))) x11_158) (.iv 27))))) (.bin .rem .i64 (.bin .add .i64 (.bin .mul .i64 (.bin .and .u8 (.iv 10) (.lit (.ofNat 7))) (.lit (.ofNat 32768))) x11_117) (.iv 27))))) (.bin .rem .i64 (.bin .add .i64 (.lit (.ofNat 0)) x11_117) (.iv 27))))), .c (.ci .i64 (.ite x11_93 (.lit (.ofNat 1)) (.lit (.ofNat 0))))]
def ss11 : List SV := [.agg [.ci .i64 (.iv 0), .cb (.bv 1), .cb (.bv 2), .ci .u8 (.iv 3), .ci .u8 (.iv 4), .ci .u8 (.iv 5), .ci .u8 (.iv 6), .ci .u8 (.iv 7), .ci .u8 (.iv 8), .ci .i64 (.iv 9), .ci .u8 (.iv 10), .ci .u8 (.iv 11), .ci .u8 (.iv 12), .ci .u8 (.iv 13), .ci .u8 (.iv 14), .ci .u8 (.iv 15), .ci .u8 (.iv 16), .ci .u8 (.iv 17), .ci .u8 (.iv 18), .ci .u8 (.iv 19), .ci .u8 (.iv 20), .ci .u8 (.iv 21), .ci .u8 (.iv 22), .cb (.bv 23), .cb (.bv 24), .cb (.bv 25), .ci .i64 (.iv 26)], .c (.ci .i64 (.iv 27)), .c (.ci .u16 (.iv 28))]
def ks11 : List LK := [.i .i64, .b, .b, .i .u8, .i .u8, .i .u8, .i .u8, .i .u8, .i .u8, .i .i64, .i .u8, .i .u8, .i .u8, .i .u8, .i .u8, .i .u8, .i .u8, .i .u8, .i .u8, .i .u8, .i .u8, .i .u8, .i .u8, .b, .b, .b, .i .i64, .i .i64, .i .u16]
theorem args11 : argTs Try.prog Try.f11.params.toList 0 = some (ss11, ks11) := by kernel_rfl
theorem tree11 : tree Try.prog 12 (sumsIn sums15) 300 11 ss11 bare 0 ⟨ks11.map LK.rg, []⟩ = .leaf v11 := by kernel_rfl
def sums11 : List Sm := ⟨11, ss11, ks11, v11⟩ :: sums15
theorem sok11 : SumsOk Try.prog sums11 := sums_cons mixed sok15 args11 tree11 (by kernel_rfl)
def v10 : ST := .v (.c (.cb (.bl true)))
def ss10 : List SV := []
def ks10 : List LK := []
theorem args10 : argTs Try.prog Try.f10.params.toList 0 = some (ss10, ks10) := by kernel_rfl
theorem tree10 : tree Try.prog 12 (sumsIn sums11) 300 10 ss10 bare 0 ⟨ks10.map LK.rg, []⟩ = .leaf v10 := by kernel_rfl
def sums10 : List Sm := ⟨10, ss10, ks10, v10⟩ :: sums11
theorem sok10 : SumsOk Try.prog sums10 := sums_cons mixed sok11 args10 tree10 (by kernel_rfl)
def ss3 : List SV := [.agg [.ci .i64 (.iv 0), .cb (.bv 1), .cb (.bv 2), .ci .u8 (.iv 3), .ci .u8 (.iv 4), .ci .u8 (.iv 5), .ci .u8 (.iv 6), .ci .u8 (.iv 7), .ci .u8 (.iv 8), .ci .i64 (.iv 9), .ci .u8 (.iv 10), .ci .u8 (.iv 11), .ci .u8 (.iv 12), .ci .u8 (.iv 13), .ci .u8 (.iv 14), .ci .u8 (.iv 15), .ci .u8 (.iv 16), .ci .u8 (.iv 17), .ci .u8 (.iv 18), .ci .u8 (.iv 19), .ci .u8 (.iv 20), .ci .u8 (.iv 21), .ci .u8 (.iv 22), .cb (.bv 23), .cb (.bv 24), .cb (.bv 25), .ci .i64 (.iv 26), .ci .i64 (.iv 27), .ci .u16 (.iv 28)], .c (.ci .u8 (.iv 29))]
def ks3 : List LK := [.i .i64, .b, .b, .i .u8, .i .u8, .i .u8, .i .u8, .i .u8, .i .u8, .i .i64, .i .u8, .i .u8, .i .u8, .i .u8, .i .u8, .i .u8, .i .u8, .i .u8, .i .u8, .i .u8, .i .u8, .i .u8, .i .u8, .b, .b, .b, .i .i64, .i .i64, .i .u16, .i .u8]
theorem args3 : argTs Try.prog Try.f3.params.toList 0 = some (ss3, ks3) := by kernel_rfl
def c_ : X := .or (.or (.or (.or (.or (.or (.cmp .eql (.iv 27) (.lit (.ofNat 8192))) (.cmp .eql (.iv 27) (.lit (.ofNat 16384)))) (.cmp .eql (.iv 27) (.lit (.ofNat 32768)))) (.cmp .eql (.iv 27) (.lit (.ofNat 65536)))) (.cmp .eql (.iv 27) (.lit (.ofNat 131072)))) (.cmp .eql (.iv 27) (.lit (.ofNat 262144)))) (.cmp .eql (.iv 27) (.lit (.ofNat 524288)))
def c_1 : X := .cmp .lss (.iv 0) (.lit (.ofNat 0))
def K_11 : Known := (((⟨ks3.map LK.rg, []⟩ : Known).assume c_ true).assume c_1 true)
theorem leaf_11 : (tree Try.prog 0 (sumsIn sums10) 300 3 ss3 bare 6 K_11).prove 300 1000 K_11 = true := by kernel_rfl
def c_10 : X := .cmp .gtr (.iv 0) (.lit (.ofNat 7))
def K_101 : Known := ((((⟨ks3.map LK.rg, []⟩ : Known).assume c_ true).assume c_1 false).assume c_10 true)
theorem leaf_101 : (tree Try.prog 0 (sumsIn sums10) 300 3 ss3 bare 6 K_101).prove 300 1000 K_101 = true := by kernel_rfl
def c_100 : X := .cmp .eql (.iv 0) (.lit (.ofNat 5))
def K_1001 : Known := (((((⟨ks3.map LK.rg, []⟩ : Known).assume c_ true).assume c_1 false).assume c_10 false).assume c_100 true)
theorem leaf_1001 : (tree Try.prog 0 (sumsIn sums10) 300 3 ss3 bare 6 K_1001).prove 300 1000 K_1001 = true := by kernel_rfl
def c_1000 : X := .cmp .eql (.iv 0) (.lit (.ofNat 6))
def K_10001 : Known := ((((((⟨ks3.map LK.rg, []⟩ : Known).assume c_ true).assume c_1 false).assume c_10 false).assume c_100 false).assume c_1000 true)
theorem leaf_10001 : (tree Try.prog 0 (sumsIn sums10) 300 3 ss3 bare 6 K_10001).prove 300 1000 K_10001 = true := by kernel_rfl
def c_10000 : X := .cmp .eql (.iv 0) (.lit (.ofNat 7))
def K_100001 : Known := (((((((⟨ks3.map LK.rg, []⟩ : Known).assume c_ true).assume c_1 false).assume c_10 false).assume c_100 false).assume c_1000 false).assume c_10000 true)
theorem leaf_100001 : (tree Try.prog 0 (sumsIn sums10) 300 3 ss3 bare 6 K_100001).prove 300 1000 K_100001 = true := by kernel_rfl
def c_100000 : X := .cmp .eql (.iv 0) (.lit (.ofNat 1))
def c_1000001 : X := .cmp .lss (.iv 26) (.lit (.ofNat 0))
def K_10000011 : Known := (((((((((⟨ks3.map LK.rg, []⟩ : Known).assume c_ true).assume c_1 false).assume c_10 false).assume c_100 false).assume c_1000 false).assume c_10000 false).assume c_100000 true).assume c_1000001 true)
theorem leaf_10000011 : (tree Try.prog 0 (sumsIn sums10) 300 3 ss3 bare 6 K_10000011).prove 300 1000 K_10000011 = true := by kernel_rfl
def c_10000010 : X := .cmp .gtr (.iv 26) (.lit (.ofNat 100))
def K_100000101 : Known := ((((((((((⟨ks3.map LK.rg, []⟩ : Known).assume c_ true).assume c_1 false).assume c_10 false).assume c_100 false).assume c_1000 false).assume c_10000 false).assume c_100000 true).assume c_1000001 false).assume c_10000010 true)
theorem leaf_100000101 : (tree Try.prog 0 (sumsIn sums10) 300 3 ss3 bare 6 K_100000101).prove 300 1000 K_100000101 = true := by kernel_rfl
def c_100000100 : X := .cmp .geq (.iv 4) (.lit (.ofNat 5))
def K_1000001001 : Known := (((((((((((⟨ks3.map LK.rg, []⟩ : Known).assume c_ true).assume c_1 false).assume c_10 false).assume c_100 false).assume c_1000 false).assume c_10000 false).assume c_100000 true).assume c_1000001 false).assume c_10000010 false).assume c_100000100 true)
theorem leaf_1000001001 : (tree Try.prog 0 (sumsIn sums10) 300 3 ss3 bare 6 K_1000001001).prove 300 1000 K_1000001001 = true := by kernel_rfl
def c_1000001000 : X := .cmp .geq (.ite (.cmp .gtr (.iv 8) (.ite (.cmp .gtr (.iv 7) (.ite (.cmp .gtr (.iv 6) (.ite (.cmp .gtr (.bin .or .u8 (.iv 5) (.lit (.ofNat 12))) (.iv 3)) (.bin .or .u8 (.iv 5) (.lit (.ofNat 12))) (.iv 3))) (.iv 6) (.ite (.cmp .gtr (.bin .or .u8 (.iv 5) (.lit (.ofNat 12))) (.iv 3)) (.bin .or .u8 (.iv 5) (.lit (.ofNat 12))) (.iv 3)))) (.iv 7) (.ite (.cmp .gtr (.iv 6) (.ite (.cmp .gtr (.bin .or .u8 (.iv 5) (.lit (.ofNat 12))) (.iv 3)) (.bin .or .u8 (.iv 5) (.lit (.ofNat 12))) (.iv 3))) (.iv 6) (.ite (.cmp .gtr (.bin .or .u8 (.iv 5) (.lit (.ofNat 12))) (.iv 3)) (.bin .or .u8 (.iv 5) (.lit (.ofNat 12))) (.iv 3))))) (.iv 8) (.ite (.cmp .gtr (.iv 7) (.ite (.cmp .gtr (.iv 6) (.ite (.cmp .gtr (.bin .or .u8 (.iv 5) (.lit (.ofNat 12))) (.iv 3)) (.bin .or .u8 (.iv 5) (.lit (.ofNat 12))) (.iv 3))) (.iv 6) (.ite (.cmp .gtr (.bin .or .u8 (.iv 5) (.lit (.ofNat 12))) (.iv 3)) (.bin .or .u8 (.iv 5) (.lit (.ofNat 12))) (.iv 3)))) (.iv 7) (.ite (.cmp .gtr (.iv 6) (.ite (.cmp .gtr (.bin .or .u8 (.iv 5) (.lit (.ofNat 12))) (.iv 3)) (.bin .or .u8 (.iv 5) (.lit (.ofNat 12))) (.iv 3))) (.iv 6) (.ite (.cmp .gtr (.bin .or .u8 (.iv 5) (.lit (.ofNat 12))) (.iv 3)) (.bin .or .u8 (.iv 5) (.lit (.ofNat 12))) (.iv 3))))) (.lit (.ofNat 32))
def K_10000010001 : Known := ((((((((((((⟨ks3.map LK.rg, []⟩ : Known).assume c_ true).assume c_1 false).assume c_10 false).assume c_100 false).assume c_1000 false).assume c_10000 false).assume c_100000 true).assume c_1000001 false).assume c_10000010 false).assume c_100000100 false).assume c_1000001000 true)
theorem leaf_10000010001 : (tree Try.prog 0 (sumsIn sums10) 300 3 ss3 bare 6 K_10000010001).prove 300 1000 K_10000010001 = true := by kernel_rfl
def c_10000010000 : X := .cmp .eql (.iv 27) (.lit (.ofNat 8192))
def K_100000100001 : Known := (((((((((((((⟨ks3.map LK.rg, []⟩ : Known).assume c_ true).assume c_1 false).assume c_10 false).assume c_100 false).assume c_1000 false).assume c_10000 false).assume c_100000 true).assume c_1000001 false).assume c_10000010 false).assume c_100000100 false).assume c_1000001000 false).assume c_10000010000 true)
theorem leaf_100000100001 : (tree Try.prog 0 (sumsIn sums10) 300 3 ss3 bare 6 K_100000100001).prove 300 1000 K_100000100001 = true := by kernel_rfl
def c_100000100000 : X := .cmp .eql (.iv 27) (.lit (.ofNat 16384))
def K_1000001000001 : Known := ((((((((((((((⟨ks3.map LK.rg, []⟩ : Known).assume c_ true).assume c_1 false).assume c_10 false).assume c_100 false).assume c_1000 false).assume c_10000 false).assume c_100000 true).assume c_1000001 false).assume c_10000010 false).assume c_100000100 false).assume c_1000001000 false).assume c_10000010000 false).assume c_100000100000 true)
theorem leaf_1000001000001 : (tree Try.prog 0 (sumsIn sums10) 300 3 ss3 bare 6 K_1000001000001).prove 300 1000 K_1000001000001 = true := by kernel_rfl
def c_1000001000000 : X := .cmp .eql (.iv 27) (.lit (.ofNat 32768))
def K_10000010000001 : Known := (((((((((((((((⟨ks3.map LK.rg, []⟩ : Known).assume c_ true).assume c_1 false).assume c_10 false).assume c_100 false).assume c_1000 false).assume c_10000 false).assume c_100000 true).assume c_1000001 false).assume c_10000010 false).assume c_100000100 false).assume c_1000001000 false).assume c_10000010000 false).assume c_100000100000 false).assume c_1000001000000 true)
theorem leaf_10000010000001 : (tree Try.prog 0 (sumsIn sums10) 300 3 ss3 bare 6 K_10000010000001).prove 300 1000 K_10000010000001 = true := by kernel_rfl
def c_10000010000000 : X := .cmp .eql (.iv 27) (.lit (.ofNat 65536))
def K_100000100000001 : Known := ((((((((((((((((⟨ks3.map LK.rg, []⟩ : Known).assume c_ true).assume c_1 false).assume c_10 false).assume c_100 false).assume c_1000 false).assume c_10000 false).assume c_100000 true).assume c_1000001 false).assume c_10000010 false).assume c_100000100 false).assume c_1000001000 false).assume c_10000010000 false).assume c_100000100000 false).assume c_1000001000000 false).assume c_10000010000000 true)
theorem leaf_100000100000001 : (tree Try.prog 0 (sumsIn sums10) 300 3 ss3 bare 6 K_100000100000001).prove 300 1000 K_100000100000001 = true := by kernel_rfl
def c_100000100000000 : X := .cmp .eql (.iv 27) (.lit (.ofNat 131072))
def K_1000001000000001 : Known := (((((((((((((((((⟨ks3.map LK.rg, []⟩ : Known).assume c_ true).assume c_1 false).assume c_10 false).assume c_100 false).assume c_1000 false).assume c_10000 false).assume c_100000 true).assume c_1000001 false).assume c_10000010 false).assume c_100000100 false).assume c_1000001000 false).assume c_10000010000 false).assume c_100000100000 false).assume c_1000001000000 false).assume c_10000010000000 false).assume c_100000100000000 true)
theorem leaf_1000001000000001 : (tree Try.prog 0 (sumsIn sums10) 300 3 ss3 bare 6 K_1000001000000001).prove 300 1000 K_1000001000000001 = true := by kernel_rfl
def c_1000001000000000 : X := .cmp .eql (.iv 27) (.lit (.ofNat 262144))
def K_10000010000000001 : Known := ((((((((((((((((((⟨ks3.map LK.rg, []⟩ : Known).assume c_ true).assume c_1 false).assume c_10 false).assume c_100 false).assume c_1000 false).assume c_10000 false).assume c_100000 true).assume c_1000001 false).assume c_10000010 false).assume c_100000100 false).assume c_1000001000 false).assume c_10000010000 false).assume c_100000100000 false).assume c_1000001000000 false).assume c_10000010000000 false).assume c_100000100000000 false).assume c_1000001000000000 true)
theorem leaf_10000010000000001 : (tree Try.prog 0 (sumsIn sums10) 300 3 ss3 bare 6 K_10000010000000001).prove 300 1000 K_10000010000000001 = true := by kernel_rfl
def c_10000010000000000 : X := .cmp .eql (.iv 27) (.lit (.ofNat 524288))
def K_100000100000000001 : Known := (((((((((((((((((((⟨ks3.map LK.rg, []⟩ : Known).assume c_ true).assume c_1 false).assume c_10 false).assume c_100 false).assume c_1000 false).assume c_10000 false).assume c_100000 true).assume c_1000001 false).assume c_10000010 false).assume c_100000100 false).assume c_1000001000 false).assume c_10000010000 false).assume c_100000100000 false).assume c_1000001000000 false).assume c_10000010000000 false).assume c_100000100000000 false).assume c_1000001000000000 false).assume c_10000010000000000 true)
theorem leaf_100000100000000001 : (tree Try.prog 0 (sumsIn sums10) 300 3 ss3 bare 6 K_100000100000000001).prove 300 1000 K_100000100000000001 = true := by kernel_rfl
def K_100000100000000000 : Known := (((((((((((((((((((⟨ks3.map LK.rg, []⟩ : Known).assume c_ true).assume c_1 false).assume c_10 false).assume c_100 false).assume c_1000 false).assume c_10000 false).assume c_100000 true).assume c_1000001 false).assume c_10000010 false).assume c_100000100 false).assume c_1000001000 false).assume c_10000010000 false).assume c_100000100000 false).assume c_1000001000000 false).assume c_10000010000000 false).assume c_100000100000000 false).assume c_1000001000000000 false).assume c_10000010000000000 false)
theorem leaf_100000100000000000 : X.prove 20 60 K_100000100000000000 (.bl false) = true := by kernel_rfl
def c_1000000 : X := .cmp .eql (.iv 0) (.lit (.ofNat 0))
def c_10000001 : X := .cmp .lss (.iv 26) (.lit (.ofNat 0))
def K_100000011 : Known := ((((((((((⟨ks3.map LK.rg, []⟩ : Known).assume c_ true).assume c_1 false).assume c_10 false).assume c_100 false).assume c_1000 false).assume c_10000 false).assume c_100000 false).assume c_1000000 true).assume c_10000001 true)
theorem leaf_100000011 : (tree Try.prog 0 (sumsIn sums10) 300 3 ss3 bare 6 K_100000011).prove 300 1000 K_100000011 = true := by kernel_rfl
def c_100000010 : X := .cmp .gtr (.iv 26) (.lit (.ofNat 100))
def K_1000000101 : Known := (((((((((((⟨ks3.map LK.rg, []⟩ : Known).assume c_ true).assume c_1 false).assume c_10 false).assume c_100 false).assume c_1000 false).assume c_10000 false).assume c_100000 false).assume c_1000000 true).assume c_10000001 false).assume c_100000010 true)
theorem leaf_1000000101 : (tree Try.prog 0 (sumsIn sums10) 300 3 ss3 bare 6 K_1000000101).prove 300 1000 K_1000000101 = true := by kernel_rfl
def c_1000000100 : X := .cmp .geq (.iv 4) (.lit (.ofNat 5))
def K_10000001001 : Known := ((((((((((((⟨ks3.map LK.rg, []⟩ : Known).assume c_ true).assume c_1 false).assume c_10 false).assume c_100 false).assume c_1000 false).assume c_10000 false).assume c_100000 false).assume c_1000000 true).assume c_10000001 false).assume c_100000010 false).assume c_1000000100 true)
theorem leaf_10000001001 : (tree Try.prog 0 (sumsIn sums10) 300 3 ss3 bare 6 K_10000001001).prove 300 1000 K_10000001001 = true := by kernel_rfl
def c_10000001000 : X := .cmp .geq (.ite (.cmp .gtr (.iv 8) (.ite (.cmp .gtr (.iv 7) (.ite (.cmp .gtr (.iv 6) (.ite (.cmp .gtr (.iv 5) (.iv 3)) (.iv 5) (.iv 3))) (.iv 6) (.ite (.cmp .gtr (.iv 5) (.iv 3)) (.iv 5) (.iv 3)))) (.iv 7) (.ite (.cmp .gtr (.iv 6) (.ite (.cmp .gtr (.iv 5) (.iv 3)) (.iv 5) (.iv 3))) (.iv 6) (.ite (.cmp .gtr (.iv 5) (.iv 3)) (.iv 5) (.iv 3))))) (.iv 8) (.ite (.cmp .gtr (.iv 7) (.ite (.cmp .gtr (.iv 6) (.ite (.cmp .gtr (.iv 5) (.iv 3)) (.iv 5) (.iv 3))) (.iv 6) (.ite (.cmp .gtr (.iv 5) (.iv 3)) (.iv 5) (.iv 3)))) (.iv 7) (.ite (.cmp .gtr (.iv 6) (.ite (.cmp .gtr (.iv 5) (.iv 3)) (.iv 5) (.iv 3))) (.iv 6) (.ite (.cmp .gtr (.iv 5) (.iv 3)) (.iv 5) (.iv 3))))) (.lit (.ofNat 32))
def K_100000010001 : Known := (((((((((((((⟨ks3.map LK.rg, []⟩ : Known).assume c_ true).assume c_1 false).assume c_10 false).assume c_100 false).assume c_1000 false).assume c_10000 false).assume c_100000 false).assume c_1000000 true).assume c_10000001 false).assume c_100000010 false).assume c_1000000100 false).assume c_10000001000 true)
theorem leaf_100000010001 : (tree Try.prog 0 (sumsIn sums10) 300 3 ss3 bare 6 K_100000010001).prove 300 1000 K_100000010001 = true := by kernel_rfl
def c_100000010000 : X := .cmp .eql (.iv 27) (.lit (.ofNat 8192))
def K_1000000100001 : Known := ((((((((((((((⟨ks3.map LK.rg, []⟩ : Known).assume c_ true).assume c_1 false).assume c_10 false).assume c_100 false).assume c_1000 false).assume c_10000 false).assume c_100000 false).assume c_1000000 true).assume c_10000001 false).assume c_100000010 false).assume c_1000000100 false).assume c_10000001000 false).assume c_100000010000 true)
theorem leaf_1000000100001 : (tree Try.prog 0 (sumsIn sums10) 300 3 ss3 bare 6 K_1000000100001).prove 300 1000 K_1000000100001 = true := by kernel_rfl
def c_1000000100000 : X := .cmp .eql (.iv 27) (.lit (.ofNat 16384))
def K_10000001000001 : Known := (((((((((((((((⟨ks3.map LK.rg, []⟩ : Known).assume c_ true).assume c_1 false).assume c_10 false).assume c_100 false).assume c_1000 false).assume c_10000 false).assume c_100000 false).assume c_1000000 true).assume c_10000001 false).assume c_100000010 false).assume c_1000000100 false).assume c_10000001000 false).assume c_100000010000 false).assume c_1000000100000 true)
theorem leaf_10000001000001 : (tree Try.prog 0 (sumsIn sums10) 300 3 ss3 bare 6 K_10000001000001).prove 300 1000 K_10000001000001 = true := by kernel_rfl
def c_10000001000000 : X := .cmp .eql (.iv 27) (.lit (.ofNat 32768))
def K_100000010000001 : Known := ((((((((((((((((⟨ks3.map LK.rg, []⟩ : Known).assume c_ true).assume c_1 false).assume c_10 false).assume c_100 false).assume c_1000 false).assume c_10000 false).assume c_100000 false).assume c_1000000 true).assume c_10000001 false).assume c_100000010 false).assume c_1000000100 false).assume c_10000001000 false).assume c_100000010000 false).assume c_1000000100000 false).assume c_10000001000000 true)
theorem leaf_100000010000001 : (tree Try.prog 0 (sumsIn sums10) 300 3 ss3 bare 6 K_100000010000001).prove 300 1000 K_100000010000001 = true := by kernel_rfl
def c_100000010000000 : X := .cmp .eql (.iv 27) (.lit (.ofNat 65536))
def K_1000000100000001 : Known := (((((((((((((((((⟨ks3.map LK.rg, []⟩ : Known).assume c_ true).assume c_1 false).assume c_10 false).assume c_100 false).assume c_1000 false).assume c_10000 false).assume c_100000 false).assume c_1000000 true).assume c_10000001 false).assume c_100000010 false).assume c_1000000100 false).assume c_10000001000 false).assume c_100000010000 false).assume c_1000000100000 false).assume c_10000001000000 false).assume c_100000010000000 true)
theorem leaf_1000000100000001 : (tree Try.prog 0 (sumsIn sums10) 300 3 ss3 bare 6 K_1000000100000001).prove 300 1000 K_1000000100000001 = true := by kernel_rfl
def c_1000000100000000 : X := .cmp .eql (.iv 27) (.lit (.ofNat 131072))
def K_10000001000000001 : Known := ((((((((((((((((((⟨ks3.map LK.rg, []⟩ : Known).assume c_ true).assume c_1 false).assume c_10 false).assume c_100 false).assume c_1000 false).assume c_10000 false).assume c_100000 false).assume c_1000000 true).assume c_10000001 false).assume c_100000010 false).assume c_1000000100 false).assume c_10000001000 false).assume c_100000010000 false).assume c_1000000100000 false).assume c_10000001000000 false).assume c_100000010000000 false).assume c_1000000100000000 true)
theorem leaf_10000001000000001 : (tree Try.prog 0 (sumsIn sums10) 300 3 ss3 bare 6 K_10000001000000001).prove 300 1000 K_10000001000000001 = true := by kernel_rfl
def c_10000001000000000 : X := .cmp .eql (.iv 27) (.lit (.ofNat 262144))
def K_100000010000000001 : Known := (((((((((((((((((((⟨ks3.map LK.rg, []⟩ : Known).assume c_ true).assume c_1 false).assume c_10 false).assume c_100 false).assume c_1000 false).assume c_10000 false).assume c_100000 false).assume c_1000000 true).assume c_10000001 false).assume c_100000010 false).assume c_1000000100 false).assume c_10000001000 false).assume c_100000010000 false).assume c_1000000100000 false).assume c_10000001000000 false).assume c_100000010000000 false).assume c_1000000100000000 false).assume c_10000001000000000 true)
theorem leaf_100000010000000001 : (tree Try.prog 0 (sumsIn sums10) 300 3 ss3 bare 6 K_100000010000000001).prove 300 1000 K_100000010000000001 = true := by kernel_rfl
def c_100000010000000000 : X := .cmp .eql (.iv 27) (.lit (.ofNat 524288))
def K_1000000100000000001 : Known := ((((((((((((((((((((⟨ks3.map LK.rg, []⟩ : Known).assume c_ true).assume c_1 false).assume c_10 false).assume c_100 false).assume c_1000 false).assume c_10000 false).assume c_100000 false).assume c_1000000 true).assume c_10000001 false).assume c_100000010 false).assume c_1000000100 false).assume c_10000001000 false).assume c_100000010000 false).assume c_1000000100000 false).assume c_10000001000000 false).assume c_100000010000000 false).assume c_1000000100000000 false).assume c_10000001000000000 false).assume c_100000010000000000 true)
theorem leaf_1000000100000000001 : (tree Try.prog 0 (sumsIn sums10) 300 3 ss3 bare 6 K_1000000100000000001).prove 300 1000 K_1000000100000000001 = true := by kernel_rfl
def K_1000000100000000000 : Known := ((((((((((((((((((((⟨ks3.map LK.rg, []⟩ : Known).assume c_ true).assume c_1 false).assume c_10 false).assume c_100 false).assume c_1000 false).assume c_10000 false).assume c_100000 false).assume c_1000000 true).assume c_10000001 false).assume c_100000010 false).assume c_1000000100 false).assume c_10000001000 false).assume c_100000010000 false).assume c_1000000100000 false).assume c_10000001000000 false).assume c_100000010000000 false).assume c_1000000100000000 false).assume c_10000001000000000 false).assume c_100000010000000000 false)
theorem leaf_1000000100000000000 : X.prove 20 60 K_1000000100000000000 (.bl false) = true := by kernel_rfl
def c_10000000 : X := .cmp .eql (.iv 0) (.lit (.ofNat 2))
def c_100000001 : X := .cmp .lss (.iv 26) (.lit (.ofNat 0))
def K_1000000011 : Known := (((((((((((⟨ks3.map LK.rg, []⟩ : Known).assume c_ true).assume c_1 false).assume c_10 false).assume c_100 false).assume c_1000 false).assume c_10000 false).assume c_100000 false).assume c_1000000 false).assume c_10000000 true).assume c_100000001 true)
theorem leaf_1000000011 : (tree Try.prog 0 (sumsIn sums10) 300 3 ss3 bare 6 K_1000000011).prove 300 1000 K_1000000011 = true := by kernel_rfl
def c_1000000010 : X := .cmp .gtr (.iv 26) (.lit (.ofNat 100))
def K_10000000101 : Known := ((((((((((((⟨ks3.map LK.rg, []⟩ : Known).assume c_ true).assume c_1 false).assume c_10 false).assume c_100 false).assume c_1000 false).assume c_10000 false).assume c_100000 false).assume c_1000000 false).assume c_10000000 true).assume c_100000001 false).assume c_1000000010 true)
theorem leaf_10000000101 : (tree Try.prog 0 (sumsIn sums10) 300 3 ss3 bare 6 K_10000000101).prove 300 1000 K_10000000101 = true := by kernel_rfl
def c_10000000100 : X := .cmp .geq (.iv 4) (.lit (.ofNat 5))
def K_100000001001 : Known := (((((((((((((⟨ks3.map LK.rg, []⟩ : Known).assume c_ true).assume c_1 false).assume c_10 false).assume c_100 false).assume c_1000 false).assume c_10000 false).assume c_100000 false).assume c_1000000 false).assume c_10000000 true).assume c_100000001 false).assume c_1000000010 false).assume c_10000000100 true)
theorem leaf_100000001001 : (tree Try.prog 0 (sumsIn sums10) 300 3 ss3 bare 6 K_100000001001).prove 300 1000 K_100000001001 = true := by kernel_rfl
def c_100000001000 : X := .cmp .geq (.ite (.cmp .gtr (.iv 8) (.ite (.cmp .gtr (.iv 7) (.ite (.cmp .gtr (.iv 6) (.ite (.cmp .gtr (.iv 5) (.iv 3)) (.iv 5) (.iv 3))) (.iv 6) (.ite (.cmp .gtr (.iv 5) (.iv 3)) (.iv 5) (.iv 3)))) (.iv 7) (.ite (.cmp .gtr (.iv 6) (.ite (.cmp .gtr (.iv 5) (.iv 3)) (.iv 5) (.iv 3))) (.iv 6) (.ite (.cmp .gtr (.iv 5) (.iv 3)) (.iv 5) (.iv 3))))) (.iv 8) (.ite (.cmp .gtr (.iv 7) (.ite (.cmp .gtr (.iv 6) (.ite (.cmp .gtr (.iv 5) (.iv 3)) (.iv 5) (.iv 3))) (.iv 6) (.ite (.cmp .gtr (.iv 5) (.iv 3)) (.iv 5) (.iv 3)))) (.iv 7) (.ite (.cmp .gtr (.iv 6) (.ite (.cmp .gtr (.iv 5) (.iv 3)) (.iv 5) (.iv 3))) (.iv 6) (.ite (.cmp .gtr (.iv 5) (.iv 3)) (.iv 5) (.iv 3))))) (.lit (.ofNat 32))
def K_1000000010001 : Known := ((((((((((((((⟨ks3.map LK.rg, []⟩ : Known).assume c_ true).assume c_1 false).assume c_10 false).assume c_100 false).assume c_1000 false).assume c_10000 false).assume c_100000 false).assume c_1000000 false).assume c_10000000 true).assume c_100000001 false).assume c_1000000010 false).assume c_10000000100 false).assume c_100000001000 true)
theorem leaf_1000000010001 : (tree Try.prog 0 (sumsIn sums10) 300 3 ss3 bare 6 K_1000000010001).prove 300 1000 K_1000000010001 = true := by kernel_rfl
def c_1000000010000 : X := .cmp .eql (.iv 27) (.lit (.ofNat 8192))
def K_10000000100001 : Known := (((((((((((((((⟨ks3.map LK.rg, []⟩ : Known).assume c_ true).assume c_1 false).assume c_10 false).assume c_100 false).assume c_1000 false).assume c_10000 false).assume c_100000 false).assume c_1000000 false).assume c_10000000 true).assume c_100000001 false).assume c_1000000010 false).assume c_10000000100 false).assume c_100000001000 false).assume c_1000000010000 true)
theorem leaf_10000000100001 : (tree Try.prog 0 (sumsIn sums10) 300 3 ss3 bare 6 K_10000000100001).prove 300 1000 K_10000000100001 = true := by kernel_rfl
def c_10000000100000 : X := .cmp .eql (.iv 27) (.lit (.ofNat 16384))
def K_100000001000001 : Known := ((((((((((((((((⟨ks3.map LK.rg, []⟩ : Known).assume c_ true).assume c_1 false).assume c_10 false).assume c_100 false).assume c_1000 false).assume c_10000 false).assume c_100000 false).assume c_1000000 false).assume c_10000000 true).assume c_100000001 false).assume c_1000000010 false).assume c_10000000100 false).assume c_100000001000 false).assume c_1000000010000 false).assume c_10000000100000 true)
theorem leaf_100000001000001 : (tree Try.prog 0 (sumsIn sums10) 300 3 ss3 bare 6 K_100000001000001).prove 300 1000 K_100000001000001 = true := by kernel_rfl
def c_100000001000000 : X := .cmp .eql (.iv 27) (.lit (.ofNat 32768))
def K_1000000010000001 : Known := (((((((((((((((((⟨ks3.map LK.rg, []⟩ : Known).assume c_ true).assume c_1 false).assume c_10 false).assume c_100 false).assume c_1000 false).assume c_10000 false).assume c_100000 false).assume c_1000000 false).assume c_10000000 true).assume c_100000001 false).assume c_1000000010 false).assume c_10000000100 false).assume c_100000001000 false).assume c_1000000010000 false).assume c_10000000100000 false).assume c_100000001000000 true)
theorem leaf_1000000010000001 : (tree Try.prog 0 (sumsIn sums10) 300 3 ss3 bare 6 K_1000000010000001).prove 300 1000 K_1000000010000001 = true := by kernel_rfl
def c_1000000010000000 : X := .cmp .eql (.iv 27) (.lit (.ofNat 65536))
def K_10000000100000001 : Known := ((((((((((((((((((⟨ks3.map LK.rg, []⟩ : Known).assume c_ true).assume c_1 false).assume c_10 false).assume c_100 false).assume c_1000 false).assume c_10000 false).assume c_100000 false).assume c_1000000 false).assume c_10000000 true).assume c_100000001 false).assume c_1000000010 false).assume c_10000000100 false).assume c_100000001000 false).assume c_1000000010000 false).assume c_10000000100000 false).assume c_100000001000000 false).assume c_1000000010000000 true)
theorem leaf_10000000100000001 : (tree Try.prog 0 (sumsIn sums10) 300 3 ss3 bare 6 K_10000000100000001).prove 300 1000 K_10000000100000001 = true := by kernel_rfl
def c_10000000100000000 : X := .cmp .eql (.iv 27) (.lit (.ofNat 131072))
def K_100000001000000001 : Known := (((((((((((((((((((⟨ks3.map LK.rg, []⟩ : Known).assume c_ true).assume c_1 false).assume c_10 false).assume c_100 false).assume c_1000 false).assume c_10000 false).assume c_100000 false).assume c_1000000 false).assume c_10000000 true).assume c_100000001 false).assume c_1000000010 false).assume c_10000000100 false).assume c_100000001000 false).assume c_1000000010000 false).assume c_10000000100000 false).assume c_100000001000000 false).assume c_1000000010000000 false).assume c_10000000100000000 true)
theorem leaf_100000001000000001 : (tree Try.prog 0 (sumsIn sums10) 300 3 ss3 bare 6 K_100000001000000001).prove 300 1000 K_100000001000000001 = true := by kernel_rfl
def c_100000001000000000 : X := .cmp .eql (.iv 27) (.lit (.ofNat 262144))
def K_1000000010000000001 : Known := ((((((((((((((((((((⟨ks3.map LK.rg, []⟩ : Known).assume c_ true).assume c_1 false).assume c_10 false).assume c_100 false).assume c_1000 false).assume c_10000 false).assume c_100000 false).assume c_1000000 false).assume c_10000000 true).assume c_100000001 false).assume c_1000000010 false).assume c_10000000100 false).assume c_100000001000 false).assume c_1000000010000 false).assume c_10000000100000 false).assume c_100000001000000 false).assume c_1000000010000000 false).assume c_10000000100000000 false).assume c_100000001000000000 true)
theorem leaf_1000000010000000001 : (tree Try.prog 0 (sumsIn sums10) 300 3 ss3 bare 6 K_1000000010000000001).prove 300 1000 K_1000000010000000001 = true := by kernel_rfl
def c_1000000010000000000 : X := .cmp .eql (.iv 27) (.lit (.ofNat 524288))
def K_10000000100000000001 : Known := (((((((((((((((((((((⟨ks3.map LK.rg, []⟩ : Known).assume c_ true).assume c_1 false).assume c_10 false).assume c_100 false).assume c_1000 false).assume c_10000 false).assume c_100000 false).assume c_1000000 false).assume c_10000000 true).assume c_100000001 false).assume c_1000000010 false).assume c_10000000100 false).assume c_100000001000 false).assume c_1000000010000 false).assume c_10000000100000 false).assume c_100000001000000 false).assume c_1000000010000000 false).assume c_10000000100000000 false).assume c_100000001000000000 false).assume c_1000000010000000000 true)
theorem leaf_10000000100000000001 : (tree Try.prog 0 (sumsIn sums10) 300 3 ss3 bare 6 K_10000000100000000001).prove 300 1000 K_10000000100000000001 = true := by kernel_rfl
def K_10000000100000000000 : Known := (((((((((((((((((((((⟨ks3.map LK.rg, []⟩ : Known).assume c_ true).assume c_1 false).assume c_10 false).assume c_100 false).assume c_1000 false).assume c_10000 false).assume c_100000 false).assume c_1000000 false).assume c_10000000 true).assume c_100000001 false).assume c_1000000010 false).assume c_10000000100 false).assume c_100000001000 false).assume c_1000000010000 false).assume c_10000000100000 false).assume c_100000001000000 false).assume c_1000000010000000 false).assume c_10000000100000000 false).assume c_100000001000000000 false).assume c_1000000010000000000 false)
theorem leaf_10000000100000000000 : X.prove 20 60 K_10000000100000000000 (.bl false) = true := by kernel_rfl
def c_100000000 : X := .cmp .eql (.iv 0) (.lit (.ofNat 3))
def c_1000000001 : X := .cmp .lss (.iv 26) (.lit (.ofNat 0))
def K_10000000011 : Known := ((((((((((((⟨ks3.map LK.rg, []⟩ : Known).assume c_ true).assume c_1 false).assume c_10 false).assume c_100 false).assume c_1000 false).assume c_10000 false).assume c_100000 false).assume c_1000000 false).assume c_10000000 false).assume c_100000000 true).assume c_1000000001 true)
theorem leaf_10000000011 : (tree Try.prog 0 (sumsIn sums10) 300 3 ss3 bare 6 K_10000000011).prove 300 1000 K_10000000011 = true := by kernel_rfl
def c_10000000010 : X := .cmp .gtr (.iv 26) (.lit (.ofNat 100))
def K_100000000101 : Known := (((((((((((((⟨ks3.map LK.rg, []⟩ : Known).assume c_ true).assume c_1 false).assume c_10 false).assume c_100 false).assume c_1000 false).assume c_10000 false).assume c_100000 false).assume c_1000000 false).assume c_10000000 false).assume c_100000000 true).assume c_1000000001 false).assume c_10000000010 true)
theorem leaf_100000000101 : (tree Try.prog 0 (sumsIn sums10) 300 3 ss3 bare 6 K_100000000101).prove 300 1000 K_100000000101 = true := by kernel_rfl
def c_100000000100 : X := .cmp .geq (.iv 4) (.lit (.ofNat 5))
def K_1000000001001 : Known := ((((((((((((((⟨ks3.map LK.rg, []⟩ : Known).assume c_ true).assume c_1 false).assume c_10 false).assume c_100 false).assume c_1000 false).assume c_10000 false).assume c_100000 false).assume c_1000000 false).assume c_10000000 false).assume c_100000000 true).assume c_1000000001 false).assume c_10000000010 false).assume c_100000000100 true)
theorem leaf_1000000001001 : (tree Try.prog 0 (sumsIn sums10) 300 3 ss3 bare 6 K_1000000001001).prove 300 1000 K_1000000001001 = true := by kernel_rfl
def c_1000000001000 : X := .cmp .geq (.ite (.cmp .gtr (.iv 8) (.ite (.cmp .gtr (.iv 7) (.ite (.cmp .gtr (.iv 6) (.ite (.cmp .gtr (.iv 5) (.iv 3)) (.iv 5) (.iv 3))) (.iv 6) (.ite (.cmp .gtr (.iv 5) (.iv 3)) (.iv 5) (.iv 3)))) (.iv 7) (.ite (.cmp .gtr (.iv 6) (.ite (.cmp .gtr (.iv 5) (.iv 3)) (.iv 5) (.iv 3))) (.iv 6) (.ite (.cmp .gtr (.iv 5) (.iv 3)) (.iv 5) (.iv 3))))) (.iv 8) (.ite (.cmp .gtr (.iv 7) (.ite (.cmp .gtr (.iv 6) (.ite (.cmp .gtr (.iv 5) (.iv 3)) (.iv 5) (.iv 3))) (.iv 6) (.ite (.cmp .gtr (.iv 5) (.iv 3)) (.iv 5) (.iv 3)))) (.iv 7) (.ite (.cmp .gtr (.iv 6) (.ite (.cmp .gtr (.iv 5) (.iv 3)) (.iv 5) (.iv 3))) (.iv 6) (.ite (.cmp .gtr (.iv 5) (.iv 3)) (.iv 5) (.iv 3))))) (.lit (.ofNat 32))
def K_10000000010001 : Known := (((((((((((((((⟨ks3.map LK.rg, []⟩ : Known).assume c_ true).assume c_1 false).assume c_10 false).assume c_100 false).assume c_1000 false).assume c_10000 false).assume c_100000 false).assume c_1000000 false).assume c_10000000 false).assume c_100000000 true).assume c_1000000001 false).assume c_10000000010 false).assume c_100000000100 false).assume c_1000000001000 true)
theorem leaf_10000000010001 : (tree Try.prog 0 (sumsIn sums10) 300 3 ss3 bare 6 K_10000000010001).prove 300 1000 K_10000000010001 = true := by kernel_rfl
def c_10000000010000 : X := .cmp .eql (.iv 27) (.lit (.ofNat 8192))
def K_100000000100001 : Known := ((((((((((((((((⟨ks3.map LK.rg, []⟩ : Known).assume c_ true).assume c_1 false).assume c_10 false).assume c_100 false).assume c_1000 false).assume c_10000 false).assume c_100000 false).assume c_1000000 false).assume c_10000000 false).assume c_100000000 true).assume c_1000000001 false).assume c_10000000010 false).assume c_100000000100 false).assume c_1000000001000 false).assume c_10000000010000 true)
theorem leaf_100000000100001 : (tree Try.prog 0 (sumsIn sums10) 300 3 ss3 bare 6 K_100000000100001).prove 300 1000 K_100000000100001 = true := by kernel_rfl
def c_100000000100000 : X := .cmp .eql (.iv 27) (.lit (.ofNat 16384))
def K_1000000001000001 : Known := (((((((((((((((((⟨ks3.map LK.rg, []⟩ : Known).assume c_ true).assume c_1 false).assume c_10 false).assume c_100 false).assume c_1000 false).assume c_10000 false).assume c_100000 false).assume c_1000000 false).assume c_10000000 false).assume c_100000000 true).assume c_1000000001 false).assume c_10000000010 false).assume c_100000000100 false).assume c_1000000001000 false).assume c_10000000010000 false).assume c_100000000100000 true)
theorem leaf_1000000001000001 : (tree Try.prog 0 (sumsIn sums10) 300 3 ss3 bare 6 K_1000000001000001).prove 300 1000 K_1000000001000001 = true := by kernel_rfl
def c_1000000001000000 : X := .cmp .eql (.iv 27) (.lit (.ofNat 32768))
def K_10000000010000001 : Known := ((((((((((((((((((⟨ks3.map LK.rg, []⟩ : Known).assume c_ true).assume c_1 false).assume c_10 false).assume c_100 false).assume c_1000 false).assume c_10000 false).assume c_100000 false).assume c_1000000 false).assume c_10000000 false).assume c_100000000 true).assume c_1000000001 false).assume c_10000000010 false).assume c_100000000100 false).assume c_1000000001000 false).assume c_10000000010000 false).assume c_100000000100000 false).assume c_1000000001000000 true)
theorem leaf_10000000010000001 : (tree Try.prog 0 (sumsIn sums10) 300 3 ss3 bare 6 K_10000000010000001).prove 300 1000 K_10000000010000001 = true := by kernel_rfl
def c_10000000010000000 : X := .cmp .eql (.iv 27) (.lit (.ofNat 65536))
def K_100000000100000001 : Known := (((((((((((((((((((⟨ks3.map LK.rg, []⟩ : Known).assume c_ true).assume c_1 false).assume c_10 false).assume c_100 false).assume c_1000 false).assume c_10000 false).assume c_100000 false).assume c_1000000 false).assume c_10000000 false).assume c_100000000 true).assume c_1000000001 false).assume c_10000000010 false).assume c_100000000100 false).assume c_1000000001000 false).assume c_10000000010000 false).assume c_100000000100000 false).assume c_1000000001000000 false).assume c_10000000010000000 true)
theorem leaf_100000000100000001 : (tree Try.prog 0 (sumsIn sums10) 300 3 ss3 bare 6 K_100000000100000001).prove 300 1000 K_100000000100000001 = true := by kernel_rfl
def c_100000000100000000 : X := .cmp .eql (.iv 27) (.lit (.ofNat 131072))
def K_1000000001000000001 : Known := ((((((((((((((((((((⟨ks3.map LK.rg, []⟩ : Known).assume c_ true).assume c_1 false).assume c_10 false).assume c_100 false).assume c_1000 false).assume c_10000 false).assume c_100000 false).assume c_1000000 false).assume c_10000000 false).assume c_100000000 true).assume c_1000000001 false).assume c_10000000010 false).assume c_100000000100 false).assume c_1000000001000 false).assume c_10000000010000 false).assume c_100000000100000 false).assume c_1000000001000000 false).assume c_10000000010000000 false).assume c_100000000100000000 true)
theorem leaf_1000000001000000001 : (tree Try.prog 0 (sumsIn sums10) 300 3 ss3 bare 6 K_1000000001000000001).prove 300 1000 K_1000000001000000001 = true := by kernel_rfl
def c_1000000001000000000 : X := .cmp .eql (.iv 27) (.lit (.ofNat 262144))
def K_10000000010000000001 : Known := (((((((((((((((((((((⟨ks3.map LK.rg, []⟩ : Known).assume c_ true).assume c_1 false).assume c_10 false).assume c_100 false).assume c_1000 false).assume c_10000 false).assume c_100000 false).assume c_1000000 false).assume c_10000000 false).assume c_100000000 true).assume c_1000000001 false).assume c_10000000010 false).assume c_100000000100 false).assume c_1000000001000 false).assume c_10000000010000 false).assume c_100000000100000 false).assume c_1000000001000000 false).assume c_10000000010000000 false).assume c_100000000100000000 false).assume c_1000000001000000000 true)
theorem leaf_10000000010000000001 : (tree Try.prog 0 (sumsIn sums10) 300 3 ss3 bare 6 K_10000000010000000001).prove 300 1000 K_10000000010000000001 = true := by kernel_rfl
def c_10000000010000000000 : X := .cmp .eql (.iv 27) (.lit (.ofNat 524288))
def K_100000000100000000001 : Known := ((((((((((((((((((((((⟨ks3.map LK.rg, []⟩ : Known).assume c_ true).assume c_1 false).assume c_10 false).assume c_100 false).assume c_1000 false).assume c_10000 false).assume c_100000 false).assume c_1000000 false).assume c_10000000 false).assume c_100000000 true).assume c_1000000001 false).assume c_10000000010 false).assume c_100000000100 false).assume c_1000000001000 false).assume c_10000000010000 false).assume c_100000000100000 false).assume c_1000000001000000 false).assume c_10000000010000000 false).assume c_100000000100000000 false).assume c_1000000001000000000 false).assume c_10000000010000000000 true)
theorem leaf_100000000100000000001 : (tree Try.prog 0 (sumsIn sums10) 300 3 ss3 bare 6 K_100000000100000000001).prove 300 1000 K_100000000100000000001 = true := by kernel_rfl
def K_100000000100000000000 : Known := ((((((((((((((((((((((⟨ks3.map LK.rg, []⟩ : Known).assume c_ true).assume c_1 false).assume c_10 false).assume c_100 false).assume c_1000 false).assume c_10000 false).assume c_100000 false).assume c_1000000 false).assume c_10000000 false).assume c_100000000 true).assume c_1000000001 false).assume c_10000000010 false).assume c_100000000100 false).assume c_1000000001000 false).assume c_10000000010000 false).assume c_100000000100000 false).assume c_1000000001000000 false).assume c_10000000010000000 false).assume c_100000000100000000 false).assume c_1000000001000000000 false).assume c_10000000010000000000 false)
theorem leaf_100000000100000000000 : X.prove 20 60 K_100000000100000000000 (.bl false) = true := by kernel_rfl
def c_1000000000 : X := .cmp .eql (.iv 0) (.lit (.ofNat 4))
def c_10000000001 : X := .cmp .lss (.iv 26) (.lit (.ofNat 0))
def K_100000000011 : Known := (((((((((((((⟨ks3.map LK.rg, []⟩ : Known).assume c_ true).assume c_1 false).assume c_10 false).assume c_100 false).assume c_1000 false).assume c_10000 false).assume c_100000 false).assume c_1000000 false).assume c_10000000 false).assume c_100000000 false).assume c_1000000000 true).assume c_10000000001 true)
theorem leaf_100000000011 : (tree Try.prog 0 (sumsIn sums10) 300 3 ss3 bare 6 K_100000000011).prove 300 1000 K_100000000011 = true := by kernel_rfl
def c_100000000010 : X := .cmp .gtr (.iv 26) (.lit (.ofNat 100))
def K_1000000000101 : Known := ((((((((((((((⟨ks3.map LK.rg, []⟩ : Known).assume c_ true).assume c_1 false).assume c_10 false).assume c_100 false).assume c_1000 false).assume c_10000 false).assume c_100000 false).assume c_1000000 false).assume c_10000000 false).assume c_100000000 false).assume c_1000000000 true).assume c_10000000001 false).assume c_100000000010 true)
theorem leaf_1000000000101 : (tree Try.prog 0 (sumsIn sums10) 300 3 ss3 bare 6 K_1000000000101).prove 300 1000 K_1000000000101 = true := by kernel_rfl
def c_1000000000100 : X := .cmp .geq (.iv 4) (.lit (.ofNat 5))
def K_10000000001001 : Known := (((((((((((((((⟨ks3.map LK.rg, []⟩ : Known).assume c_ true).assume c_1 false).assume c_10 false).assume c_100 false).assume c_1000 false).assume c_10000 false).assume c_100000 false).assume c_1000000 false).assume c_10000000 false).assume c_100000000 false).assume c_1000000000 true).assume c_10000000001 false).assume c_100000000010 false).assume c_1000000000100 true)
theorem leaf_10000000001001 : (tree Try.prog 0 (sumsIn sums10) 300 3 ss3 bare 6 K_10000000001001).prove 300 1000 K_10000000001001 = true := by kernel_rfl
def c_10000000001000 : X := .cmp .geq (.ite (.cmp .gtr (.iv 8) (.ite (.cmp .gtr (.iv 7) (.ite (.cmp .gtr (.iv 6) (.ite (.cmp .gtr (.iv 5) (.iv 3)) (.iv 5) (.iv 3))) (.iv 6) (.ite (.cmp .gtr (.iv 5) (.iv 3)) (.iv 5) (.iv 3)))) (.iv 7) (.ite (.cmp .gtr (.iv 6) (.ite (.cmp .gtr (.iv 5) (.iv 3)) (.iv 5) (.iv 3))) (.iv 6) (.ite (.cmp .gtr (.iv 5) (.iv 3)) (.iv 5) (.iv 3))))) (.iv 8) (.ite (.cmp .gtr (.iv 7) (.ite (.cmp .gtr (.iv 6) (.ite (.cmp .gtr (.iv 5) (.iv 3)) (.iv 5) (.iv 3))) (.iv 6) (.ite (.cmp .gtr (.iv 5) (.iv 3)) (.iv 5) (.iv 3)))) (.iv 7) (.ite (.cmp .gtr (.iv 6) (.ite (.cmp .gtr (.iv 5) (.iv 3)) (.iv 5) (.iv 3))) (.iv 6) (.ite (.cmp .gtr (.iv 5) (.iv 3)) (.iv 5) (.iv 3))))) (.lit (.ofNat 32))
def K_100000000010001 : Known := ((((((((((((((((⟨ks3.map LK.rg, []⟩ : Known).assume c_ true).assume c_1 false).assume c_10 false).assume c_100 false).assume c_1000 false).assume c_10000 false).assume c_100000 false).assume c_1000000 false).assume c_10000000 false).assume c_100000000 false).assume c_1000000000 true).assume c_10000000001 false).assume c_100000000010 false).assume c_1000000000100 false).assume c_10000000001000 true)
theorem leaf_100000000010001 : (tree Try.prog 0 (sumsIn sums10) 300 3 ss3 bare 6 K_100000000010001).prove 300 1000 K_100000000010001 = true := by kernel_rfl
def c_100000000010000 : X := .cmp .eql (.iv 27) (.lit (.ofNat 8192))
def K_1000000000100001 : Known := (((((((((((((((((⟨ks3.map LK.rg, []⟩ : Known).assume c_ true).assume c_1 false).assume c_10 false).assume c_100 false).assume c_1000 false).assume c_10000 false).assume c_100000 false).assume c_1000000 false).assume c_10000000 false).assume c_100000000 false).assume c_1000000000 true).assume c_10000000001 false).assume c_100000000010 false).assume c_1000000000100 false).assume c_10000000001000 false).assume c_100000000010000 true)
theorem leaf_1000000000100001 : (tree Try.prog 0 (sumsIn sums10) 300 3 ss3 bare 6 K_1000000000100001).prove 300 1000 K_1000000000100001 = true := by kernel_rfl
def c_1000000000100000 : X := .cmp .eql (.iv 27) (.lit (.ofNat 16384))
def K_10000000001000001 : Known := ((((((((((((((((((⟨ks3.map LK.rg, []⟩ : Known).assume c_ true).assume c_1 false).assume c_10 false).assume c_100 false).assume c_1000 false).assume c_10000 false).assume c_100000 false).assume c_1000000 false).assume c_10000000 false).assume c_100000000 false).assume c_1000000000 true).assume c_10000000001 false).assume c_100000000010 false).assume c_1000000000100 false).assume c_10000000001000 false).assume c_100000000010000 false).assume c_1000000000100000 true)
theorem leaf_10000000001000001 : (tree Try.prog 0 (sumsIn sums10) 300 3 ss3 bare 6 K_10000000001000001).prove 300 1000 K_10000000001000001 = true := by kernel_rfl
def c_10000000001000000 : X := .cmp .eql (.iv 27) (.lit (.ofNat 32768))
def K_100000000010000001 : Known := (((((((((((((((((((⟨ks3.map LK.rg, []⟩ : Known).assume c_ true).assume c_1 false).assume c_10 false).assume c_100 false).assume c_1000 false).assume c_10000 false).assume c_100000 false).assume c_1000000 false).assume c_10000000 false).assume c_100000000 false).assume c_1000000000 true).assume c_10000000001 false).assume c_100000000010 false).assume c_1000000000100 false).assume c_10000000001000 false).assume c_100000000010000 false).assume c_1000000000100000 false).assume c_10000000001000000 true)
theorem leaf_100000000010000001 : (tree Try.prog 0 (sumsIn sums10) 300 3 ss3 bare 6 K_100000000010000001).prove 300 1000 K_100000000010000001 = true := by kernel_rfl
def c_100000000010000000 : X := .cmp .eql (.iv 27) (.lit (.ofNat 65536))
def K_1000000000100000001 : Known := ((((((((((((((((((((⟨ks3.map LK.rg, []⟩ : Known).assume c_ true).assume c_1 false).assume c_10 false).assume c_100 false).assume c_1000 false).assume c_10000 false).assume c_100000 false).assume c_1000000 false).assume c_10000000 false).assume c_100000000 false).assume c_1000000000 true).assume c_10000000001 false).assume c_100000000010 false).assume c_1000000000100 false).assume c_10000000001000 false).assume c_100000000010000 false).assume c_1000000000100000 false).assume c_10000000001000000 false).assume c_100000000010000000 true)
theorem leaf_1000000000100000001 : (tree Try.prog 0 (sumsIn sums10) 300 3 ss3 bare 6 K_1000000000100000001).prove 300 1000 K_1000000000100000001 = true := by kernel_rfl
def c_1000000000100000000 : X := .cmp .eql (.iv 27) (.lit (.ofNat 131072))
def K_10000000001000000001 : Known := (((((((((((((((((((((⟨ks3.map LK.rg, []⟩ : Known).assume c_ true).assume c_1 false).assume c_10 false).assume c_100 false).assume c_1000 false).assume c_10000 false).assume c_100000 false).assume c_1000000 false).assume c_10000000 false).assume c_100000000 false).assume c_1000000000 true).assume c_10000000001 false).assume c_100000000010 false).assume c_1000000000100 false).assume c_10000000001000 false).assume c_100000000010000 false).assume c_1000000000100000 false).assume c_10000000001000000 false).assume c_100000000010000000 false).assume c_1000000000100000000 true)
theorem leaf_10000000001000000001 : (tree Try.prog 0 (sumsIn sums10) 300 3 ss3 bare 6 K_10000000001000000001).prove 300 1000 K_10000000001000000001 = true := by kernel_rfl
def c_10000000001000000000 : X := .cmp .eql (.iv 27) (.lit (.ofNat 262144))
def K_100000000010000000001 : Known := ((((((((((((((((((((((⟨ks3.map LK.rg, []⟩ : Known).assume c_ true).assume c_1 false).assume c_10 false).assume c_100 false).assume c_1000 false).assume c_10000 false).assume c_100000 false).assume c_1000000 false).assume c_10000000 false).assume c_100000000 false).assume c_1000000000 true).assume c_10000000001 false).assume c_100000000010 false).assume c_1000000000100 false).assume c_10000000001000 false).assume c_100000000010000 false).assume c_1000000000100000 false).assume c_10000000001000000 false).assume c_100000000010000000 false).assume c_1000000000100000000 false).assume c_10000000001000000000 true)
theorem leaf_100000000010000000001 : (tree Try.prog 0 (sumsIn sums10) 300 3 ss3 bare 6 K_100000000010000000001).prove 300 1000 K_100000000010000000001 = true := by kernel_rfl
def c_100000000010000000000 : X := .cmp .eql (.iv 27) (.lit (.ofNat 524288))
def K_1000000000100000000001 : Known := (((((((((((((((((((((((⟨ks3.map LK.rg, []⟩ : Known).assume c_ true).assume c_1 false).assume c_10 false).assume c_100 false).assume c_1000 false).assume c_10000 false).assume c_100000 false).assume c_1000000 false).assume c_10000000 false).assume c_100000000 false).assume c_1000000000 true).assume c_10000000001 false).assume c_100000000010 false).assume c_1000000000100 false).assume c_10000000001000 false).assume c_100000000010000 false).assume c_1000000000100000 false).assume c_10000000001000000 false).assume c_100000000010000000 false).assume c_1000000000100000000 false).assume c_10000000001000000000 false).assume c_100000000010000000000 true)
theorem leaf_1000000000100000000001 : (tree Try.prog 0 (sumsIn sums10) 300 3 ss3 bare 6 K_1000000000100000000001).prove 300 1000 K_1000000000100000000001 = true := by kernel_rfl
def K_1000000000100000000000 : Known := (((((((((((((((((((((((⟨ks3.map LK.rg, []⟩ : Known).assume c_ true).assume c_1 false).assume c_10 false).assume c_100 false).assume c_1000 false).assume c_10000 false).assume c_100000 false).assume c_1000000 false).assume c_10000000 false).assume c_100000000 false).assume c_1000000000 true).assume c_10000000001 false).assume c_100000000010 false).assume c_1000000000100 false).assume c_10000000001000 false).assume c_100000000010000 false).assume c_1000000000100000 false).assume c_10000000001000000 false).assume c_100000000010000000 false).assume c_1000000000100000000 false).assume c_10000000001000000000 false).assume c_100000000010000000000 false)
theorem leaf_1000000000100000000000 : X.prove 20 60 K_1000000000100000000000 (.bl false) = true := by kernel_rfl
def K_10000000000 : Known := ((((((((((((⟨ks3.map LK.rg, []⟩ : Known).assume c_ true).assume c_1 false).assume c_10 false).assume c_100 false).assume c_1000 false).assume c_10000 false).assume c_100000 false).assume c_1000000 false).assume c_10000000 false).assume c_100000000 false).assume c_1000000000 false)
theorem leaf_10000000000 : X.prove 20 60 K_10000000000 (.bl false) = true := by kernel_rfl
def c_0 : X := .cmp .eql (.bin .quo .i64 (.iv 27) (.lit (.ofNat 16384))) (.lit (.ofNat 1))
def c_01 : X := .cmp .eql (.bin .rem .i64 (.iv 27) (.lit (.ofNat 16384))) (.lit (.ofNat 0))
def K_011 : Known := ((((⟨ks3.map LK.rg, []⟩ : Known).assume c_ false).assume c_0 true).assume c_01 true)
theorem leaf_011 : X.prove 20 60 K_011 (.bl false) = true := by kernel_rfl
def c_010 : X := .cmp .eql (.bin .quo .i64 (.iv 27) (.lit (.ofNat 8192))) (.lit (.ofNat 1))
def c_0101 : X := .cmp .eql (.bin .rem .i64 (.iv 27) (.lit (.ofNat 8192))) (.lit (.ofNat 0))
def K_01011 : Known := ((((((⟨ks3.map LK.rg, []⟩ : Known).assume c_ false).assume c_0 true).assume c_01 false).assume c_010 true).assume c_0101 true)
theorem leaf_01011 : X.prove 20 60 K_01011 (.bl false) = true := by kernel_rfl
def K_01010 : Known := ((((((⟨ks3.map LK.rg, []⟩ : Known).assume c_ false).assume c_0 true).assume c_01 false).assume c_010 true).assume c_0101 false)
theorem leaf_01010 : X.prove 20 60 K_01010 (.bl false) = true := by kernel_rfl
def c_0100 : X := .cmp .eql (.bin .quo .i64 (.iv 27) (.lit (.ofNat 8192))) (.lit (.ofNat 2))
def c_01001 : X := .cmp .eql (.bin .rem .i64 (.iv 27) (.lit (.ofNat 8192))) (.lit (.ofNat 0))
def K_010011 : Known := (((((((⟨ks3.map LK.rg, []⟩ : Known).assume c_ false).assume c_0 true).assume c_01 false).assume c_010 false).assume c_0100 true).assume c_01001 true)
theorem leaf_010011 : X.prove 20 60 K_010011 (.bl false) = true := by kernel_rfl
def K_010010 : Known := (((((((⟨ks3.map LK.rg, []⟩ : Known).assume c_ false).assume c_0 true).assume c_01 false).assume c_010 false).assume c_0100 true).assume c_01001 false)
theorem leaf_010010 : (tree Try.prog 0 (sumsIn sums10) 300 3 ss3 bare 6 K_010010).prove 300 1000 K_010010 = true := by kernel_rfl
def c_01000 : X := .cmp .eql (.bin .quo .i64 (.iv 27) (.lit (.ofNat 8192))) (.lit (.ofNat 4))
def c_010001 : X := .cmp .eql (.bin .rem .i64 (.iv 27) (.lit (.ofNat 8192))) (.lit (.ofNat 0))
def K_0100011 : Known := ((((((((⟨ks3.map LK.rg, []⟩ : Known).assume c_ false).assume c_0 true).assume c_01 false).assume c_010 false).assume c_0100 false).assume c_01000 true).assume c_010001 true)
theorem leaf_0100011 : X.prove 20 60 K_0100011 (.bl false) = true := by kernel_rfl
def K_0100010 : Known := ((((((((⟨ks3.map LK.rg, []⟩ : Known).assume c_ false).assume c_0 true).assume c_01 false).assume c_010 false).assume c_0100 false).assume c_01000 true).assume c_010001 false)
theorem leaf_0100010 : X.prove 20 60 K_0100010 (.bl false) = true := by kernel_rfl
def c_010000 : X := .cmp .eql (.bin .quo .i64 (.iv 27) (.lit (.ofNat 8192))) (.lit (.ofNat 8))
def c_0100001 : X := .cmp .eql (.bin .rem .i64 (.iv 27) (.lit (.ofNat 8192))) (.lit (.ofNat 0))
def K_01000011 : Known := (((((((((⟨ks3.map LK.rg, []⟩ : Known).assume c_ false).assume c_0 true).assume c_01 false).assume c_010 false).assume c_0100 false).assume c_01000 false).assume c_010000 true).assume c_0100001 true)
theorem leaf_01000011 : X.prove 20 60 K_01000011 (.bl false) = true := by kernel_rfl
def K_01000010 : Known := (((((((((⟨ks3.map LK.rg, []⟩ : Known).assume c_ false).assume c_0 true).assume c_01 false).assume c_010 false).assume c_0100 false).assume c_01000 false).assume c_010000 true).assume c_0100001 false)
theorem leaf_01000010 : X.prove 20 60 K_01000010 (.bl false) = true := by kernel_rfl
def c_0100000 : X := .cmp .eql (.bin .quo .i64 (.iv 27) (.lit (.ofNat 8192))) (.lit (.ofNat 16))
def c_01000001 : X := .cmp .eql (.bin .rem .i64 (.iv 27) (.lit (.ofNat 8192))) (.lit (.ofNat 0))
def K_010000011 : Known := ((((((((((⟨ks3.map LK.rg, []⟩ : Known).assume c_ false).assume c_0 true).assume c_01 false).assume c_010 false).assume c_0100 false).assume c_01000 false).assume c_010000 false).assume c_0100000 true).assume c_01000001 true)
theorem leaf_010000011 : X.prove 20 60 K_010000011 (.bl false) = true := by kernel_rfl
def K_010000010 : Known := ((((((((((⟨ks3.map LK.rg, []⟩ : Known).assume c_ false).assume c_0 true).assume c_01 false).assume c_010 false).assume c_0100 false).assume c_01000 false).assume c_010000 false).assume c_0100000 true).assume c_01000001 false)
theorem leaf_010000010 : X.prove 20 60 K_010000010 (.bl false) = true := by kernel_rfl
def c_01000000 : X := .cmp .eql (.bin .quo .i64 (.iv 27) (.lit (.ofNat 8192))) (.lit (.ofNat 32))
def c_010000001 : X := .cmp .eql (.bin .rem .i64 (.iv 27) (.lit (.ofNat 8192))) (.lit (.ofNat 0))
def K_0100000011 : Known := (((((((((((⟨ks3.map LK.rg, []⟩ : Known).assume c_ false).assume c_0 true).assume c_01 false).assume c_010 false).assume c_0100 false).assume c_01000 false).assume c_010000 false).assume c_0100000 false).assume c_01000000 true).assume c_010000001 true)
theorem leaf_0100000011 : X.prove 20 60 K_0100000011 (.bl false) = true := by kernel_rfl
def K_0100000010 : Known := (((((((((((⟨ks3.map LK.rg, []⟩ : Known).assume c_ false).assume c_0 true).assume c_01 false).assume c_010 false).assume c_0100 false).assume c_01000 false).assume c_010000 false).assume c_0100000 false).assume c_01000000 true).assume c_010000001 false)
theorem leaf_0100000010 : X.prove 20 60 K_0100000010 (.bl false) = true := by kernel_rfl
def K_010000000 : Known := ((((((((((⟨ks3.map LK.rg, []⟩ : Known).assume c_ false).assume c_0 true).assume c_01 false).assume c_010 false).assume c_0100 false).assume c_01000 false).assume c_010000 false).assume c_0100000 false).assume c_01000000 false)
theorem leaf_010000000 : (tree Try.prog 0 (sumsIn sums10) 300 3 ss3 bare 6 K_010000000).prove 300 1000 K_010000000 = true := by kernel_rfl
def c_00 : X := .cmp .eql (.bin .quo .i64 (.iv 27) (.lit (.ofNat 16384))) (.lit (.ofNat 2))
def c_001 : X := .cmp .eql (.bin .rem .i64 (.iv 27) (.lit (.ofNat 16384))) (.lit (.ofNat 0))
def K_0011 : Known := (((((⟨ks3.map LK.rg, []⟩ : Known).assume c_ false).assume c_0 false).assume c_00 true).assume c_001 true)
theorem leaf_0011 : X.prove 20 60 K_0011 (.bl false) = true := by kernel_rfl
def c_0010 : X := .cmp .eql (.bin .quo .i64 (.iv 27) (.lit (.ofNat 8192))) (.lit (.ofNat 1))
def c_00101 : X := .cmp .eql (.bin .rem .i64 (.iv 27) (.lit (.ofNat 8192))) (.lit (.ofNat 0))
def K_001011 : Known := (((((((⟨ks3.map LK.rg, []⟩ : Known).assume c_ false).assume c_0 false).assume c_00 true).assume c_001 false).assume c_0010 true).assume c_00101 true)
theorem leaf_001011 : X.prove 20 60 K_001011 (.bl false) = true := by kernel_rfl
def K_001010 : Known := (((((((⟨ks3.map LK.rg, []⟩ : Known).assume c_ false).assume c_0 false).assume c_00 true).assume c_001 false).assume c_0010 true).assume c_00101 false)
theorem leaf_001010 : X.prove 20 60 K_001010 (.bl false) = true := by kernel_rfl
def c_00100 : X := .cmp .eql (.bin .quo .i64 (.iv 27) (.lit (.ofNat 8192))) (.lit (.ofNat 2))
def c_001001 : X := .cmp .eql (.bin .rem .i64 (.iv 27) (.lit (.ofNat 8192))) (.lit (.ofNat 0))
def K_0010011 : Known := ((((((((⟨ks3.map LK.rg, []⟩ : Known).assume c_ false).assume c_0 false).assume c_00 true).assume c_001 false).assume c_0010 false).assume c_00100 true).assume c_001001 true)
theorem leaf_0010011 : X.prove 20 60 K_0010011 (.bl false) = true := by kernel_rfl
def K_0010010 : Known := ((((((((⟨ks3.map LK.rg, []⟩ : Known).assume c_ false).assume c_0 false).assume c_00 true).assume c_001 false).assume c_0010 false).assume c_00100 true).assume c_001001 false)
theorem leaf_0010010 : X.prove 20 60 K_0010010 (.bl false) = true := by kernel_rfl
def c_001000 : X := .cmp .eql (.bin .quo .i64 (.iv 27) (.lit (.ofNat 8192))) (.lit (.ofNat 4))
def c_0010001 : X := .cmp .eql (.bin .rem .i64 (.iv 27) (.lit (.ofNat 8192))) (.lit (.ofNat 0))
def K_00100011 : Known := (((((((((⟨ks3.map LK.rg, []⟩ : Known).assume c_ false).assume c_0 false).assume c_00 true).assume c_001 false).assume c_0010 false).assume c_00100 false).assume c_001000 true).assume c_0010001 true)
theorem leaf_00100011 : X.prove 20 60 K_00100011 (.bl false) = true := by kernel_rfl
def K_00100010 : Known := (((((((((⟨ks3.map LK.rg, []⟩ : Known).assume c_ false).assume c_0 false).assume c_00 true).assume c_001 false).assume c_0010 false).assume c_00100 false).assume c_001000 true).assume c_0010001 false)
theorem leaf_00100010 : (tree Try.prog 0 (sumsIn sums10) 300 3 ss3 bare 6 K_00100010).prove 300 1000 K_00100010 = true := by kernel_rfl
def c_0010000 : X := .cmp .eql (.bin .quo .i64 (.iv 27) (.lit (.ofNat 8192))) (.lit (.ofNat 8))
def c_00100001 : X := .cmp .eql (.bin .rem .i64 (.iv 27) (.lit (.ofNat 8192))) (.lit (.ofNat 0))
def K_001000011 : Known := ((((((((((⟨ks3.map LK.rg, []⟩ : Known).assume c_ false).assume c_0 false).assume c_00 true).assume c_001 false).assume c_0010 false).assume c_00100 false).assume c_001000 false).assume c_0010000 true).assume c_00100001 true)
theorem leaf_001000011 : X.prove 20 60 K_001000011 (.bl false) = true := by kernel_rfl
def K_001000010 : Known := ((((((((((⟨ks3.map LK.rg, []⟩ : Known).assume c_ false).assume c_0 false).assume c_00 true).assume c_001 false).assume c_0010 false).assume c_00100 false).assume c_001000 false).assume c_0010000 true).assume c_00100001 false)
theorem leaf_001000010 : X.prove 20 60 K_001000010 (.bl false) = true := by kernel_rfl
def c_00100000 : X := .cmp .eql (.bin .quo .i64 (.iv 27) (.lit (.ofNat 8192))) (.lit (.ofNat 16))
def c_001000001 : X := .cmp .eql (.bin .rem .i64 (.iv 27) (.lit (.ofNat 8192))) (.lit (.ofNat 0))
def K_0010000011 : Known := (((((((((((⟨ks3.map LK.rg, []⟩ : Known).assume c_ false).assume c_0 false).assume c_00 true).assume c_001 false).assume c_0010 false).assume c_00100 false).assume c_001000 false).assume c_0010000 false).assume c_00100000 true).assume c_001000001 true)
theorem leaf_0010000011 : X.prove 20 60 K_0010000011 (.bl false) = true := by kernel_rfl
def K_0010000010 : Known := (((((((((((⟨ks3.map LK.rg, []⟩ : Known).assume c_ false).assume c_0 false).assume c_00 true).assume c_001 false).assume c_0010 false).assume c_00100 false).assume c_001000 false).assume c_0010000 false).assume c_00100000 true).assume c_001000001 false)
theorem leaf_0010000010 : X.prove 20 60 K_0010000010 (.bl false) = true := by kernel_rfl
def c_001000000 : X := .cmp .eql (.bin .quo .i64 (.iv 27) (.lit (.ofNat 8192))) (.lit (.ofNat 32))
def c_0010000001 : X := .cmp .eql (.bin .rem .i64 (.iv 27) (.lit (.ofNat 8192))) (.lit (.ofNat 0))
def K_00100000011 : Known := ((((((((((((⟨ks3.map LK.rg, []⟩ : Known).assume c_ false).assume c_0 false).assume c_00 true).assume c_001 false).assume c_0010 false).assume c_00100 false).assume c_001000 false).assume c_0010000 false).assume c_00100000 false).assume c_001000000 true).assume c_0010000001 true)
theorem leaf_00100000011 : X.prove 20 60 K_00100000011 (.bl false) = true := by kernel_rfl
def K_00100000010 : Known := ((((((((((((⟨ks3.map LK.rg, []⟩ : Known).assume c_ false).assume c_0 false).assume c_00 true).assume c_001 false).assume c_0010 false).assume c_00100 false).assume c_001000 false).assume c_0010000 false).assume c_00100000 false).assume c_001000000 true).assume c_0010000001 false)
theorem leaf_00100000010 : X.prove 20 60 K_00100000010 (.bl false) = true := by kernel_rfl
def K_0010000000 : Known := (((((((((((⟨ks3.map LK.rg, []⟩ : Known).assume c_ false).assume c_0 false).assume c_00 true).assume c_001 false).assume c_0010 false).assume c_00100 false).assume c_001000 false).assume c_0010000 false).assume c_00100000 false).assume c_001000000 false)
theorem leaf_0010000000 : (tree Try.prog 0 (sumsIn sums10) 300 3 ss3 bare 6 K_0010000000).prove 300 1000 K_0010000000 = true := by kernel_rfl
def c_000 : X := .cmp .eql (.bin .quo .i64 (.iv 27) (.lit (.ofNat 16384))) (.lit (.ofNat 4))
def c_0001 : X := .cmp .eql (.bin .rem .i64 (.iv 27) (.lit (.ofNat 16384))) (.lit (.ofNat 0))
def K_00011 : Known := ((((((⟨ks3.map LK.rg, []⟩ : Known).assume c_ false).assume c_0 false).assume c_00 false).assume c_000 true).assume c_0001 true)
theorem leaf_00011 : X.prove 20 60 K_00011 (.bl false) = true := by kernel_rfl
def c_00010 : X := .cmp .eql (.bin .quo .i64 (.iv 27) (.lit (.ofNat 8192))) (.lit (.ofNat 1))
def c_000101 : X := .cmp .eql (.bin .rem .i64 (.iv 27) (.lit (.ofNat 8192))) (.lit (.ofNat 0))
def K_0001011 : Known := ((((((((⟨ks3.map LK.rg, []⟩ : Known).assume c_ false).assume c_0 false).assume c_00 false).assume c_000 true).assume c_0001 false).assume c_00010 true).assume c_000101 true)
theorem leaf_0001011 : X.prove 20 60 K_0001011 (.bl false) = true := by kernel_rfl
def K_0001010 : Known := ((((((((⟨ks3.map LK.rg, []⟩ : Known).assume c_ false).assume c_0 false).assume c_00 false).assume c_000 true).assume c_0001 false).assume c_00010 true).assume c_000101 false)
theorem leaf_0001010 : X.prove 20 60 K_0001010 (.bl false) = true := by kernel_rfl
def c_000100 : X := .cmp .eql (.bin .quo .i64 (.iv 27) (.lit (.ofNat 8192))) (.lit (.ofNat 2))
def c_0001001 : X := .cmp .eql (.bin .rem .i64 (.iv 27) (.lit (.ofNat 8192))) (.lit (.ofNat 0))
def K_00010011 : Known := (((((((((⟨ks3.map LK.rg, []⟩ : Known).assume c_ false).assume c_0 false).assume c_00 false).assume c_000 true).assume c_0001 false).assume c_00010 false).assume c_000100 true).assume c_0001001 true)
theorem leaf_00010011 : X.prove 20 60 K_00010011 (.bl false) = true := by kernel_rfl
def K_00010010 : Known := (((((((((⟨ks3.map LK.rg, []⟩ : Known).assume c_ false).assume c_0 false).assume c_00 false).assume c_000 true).assume c_0001 false).assume c_00010 false).assume c_000100 true).assume c_0001001 false)
theorem leaf_00010010 : X.prove 20 60 K_00010010 (.bl false) = true := by kernel_rfl
def c_0001000 : X := .cmp .eql (.bin .quo .i64 (.iv 27) (.lit (.ofNat 8192))) (.lit (.ofNat 4))
def c_00010001 : X := .cmp .eql (.bin .rem .i64 (.iv 27) (.lit (.ofNat 8192))) (.lit (.ofNat 0))
def K_000100011 : Known := ((((((((((⟨ks3.map LK.rg, []⟩ : Known).assume c_ false).assume c_0 false).assume c_00 false).assume c_000 true).assume c_0001 false).assume c_00010 false).assume c_000100 false).assume c_0001000 true).assume c_00010001 true)
theorem leaf_000100011 : X.prove 20 60 K_000100011 (.bl false) = true := by kernel_rfl
def K_000100010 : Known := ((((((((((⟨ks3.map LK.rg, []⟩ : Known).assume c_ false).assume c_0 false).assume c_00 false).assume c_000 true).assume c_0001 false).assume c_00010 false).assume c_000100 false).assume c_0001000 true).assume c_00010001 false)
theorem leaf_000100010 : X.prove 20 60 K_000100010 (.bl false) = true := by kernel_rfl
def c_00010000 : X := .cmp .eql (.bin .quo .i64 (.iv 27) (.lit (.ofNat 8192))) (.lit (.ofNat 8))
def c_000100001 : X := .cmp .eql (.bin .rem .i64 (.iv 27) (.lit (.ofNat 8192))) (.lit (.ofNat 0))
def K_0001000011 : Known := (((((((((((⟨ks3.map LK.rg, []⟩ : Known).assume c_ false).assume c_0 false).assume c_00 false).assume c_000 true).assume c_0001 false).assume c_00010 false).assume c_000100 false).assume c_0001000 false).assume c_00010000 true).assume c_000100001 true)
theorem leaf_0001000011 : X.prove 20 60 K_0001000011 (.bl false) = true := by kernel_rfl
def K_0001000010 : Known := (((((((((((⟨ks3.map LK.rg, []⟩ : Known).assume c_ false).assume c_0 false).assume c_00 false).assume c_000 true).assume c_0001 false).assume c_00010 false).assume c_000100 false).assume c_0001000 false).assume c_00010000 true).assume c_000100001 false)
theorem leaf_0001000010 : (tree Try.prog 0 (sumsIn sums10) 300 3 ss3 bare 6 K_0001000010).prove 300 1000 K_0001000010 = true := by kernel_rfl
def c_000100000 : X := .cmp .eql (.bin .quo .i64 (.iv 27) (.lit (.ofNat 8192))) (.lit (.ofNat 16))
def c_0001000001 : X := .cmp .eql (.bin .rem .i64 (.iv 27) (.lit (.ofNat 8192))) (.lit (.ofNat 0))
def K_00010000011 : Known := ((((((((((((⟨ks3.map LK.rg, []⟩ : Known).assume c_ false).assume c_0 false).assume c_00 false).assume c_000 true).assume c_0001 false).assume c_00010 false).assume c_000100 false).assume c_0001000 false).assume c_00010000 false).assume c_000100000 true).assume c_0001000001 true)
theorem leaf_00010000011 : X.prove 20 60 K_00010000011 (.bl false) = true := by kernel_rfl
def K_00010000010 : Known := ((((((((((((⟨ks3.map LK.rg, []⟩ : Known).assume c_ false).assume c_0 false).assume c_00 false).assume c_000 true).assume c_0001 false).assume c_00010 false).assume c_000100 false).assume c_0001000 false).assume c_00010000 false).assume c_000100000 true).assume c_0001000001 false)
theorem leaf_00010000010 : X.prove 20 60 K_00010000010 (.bl false) = true := by kernel_rfl
def c_0001000000 : X := .cmp .eql (.bin .quo .i64 (.iv 27) (.lit (.ofNat 8192))) (.lit (.ofNat 32))
def c_00010000001 : X := .cmp .eql (.bin .rem .i64 (.iv 27) (.lit (.ofNat 8192))) (.lit (.ofNat 0))
def K_000100000011 : Known := (((((((((((((⟨ks3.map LK.rg, []⟩ : Known).assume c_ false).assume c_0 false).assume c_00 false).assume c_000 true).assume c_0001 false).assume c_00010 false).assume c_000100 false).assume c_0001000 false).assume c_00010000 false).assume c_000100000 false).assume c_0001000000 true).assume c_00010000001 true)
theorem leaf_000100000011 : X.prove 20 60 K_000100000011 (.bl false) = true := by kernel_rfl
def K_000100000010 : Known := (((((((((((((⟨ks3.map LK.rg, []⟩ : Known).assume c_ false).assume c_0 false).assume c_00 false).assume c_000 true).assume c_0001 false).assume c_00010 false).assume c_000100 false).assume c_0001000 false).assume c_00010000 false).assume c_000100000 false).assume c_0001000000 true).assume c_00010000001 false)
theorem leaf_000100000010 : X.prove 20 60 K_000100000010 (.bl false) = true := by kernel_rfl
def K_00010000000 : Known := ((((((((((((⟨ks3.map LK.rg, []⟩ : Known).assume c_ false).assume c_0 false).assume c_00 false).assume c_000 true).assume c_0001 false).assume c_00010 false).assume c_000100 false).assume c_0001000 false).assume c_00010000 false).assume c_000100000 false).assume c_0001000000 false)
theorem leaf_00010000000 : (tree Try.prog 0 (sumsIn sums10) 300 3 ss3 bare 6 K_00010000000).prove 300 1000 K_00010000000 = true := by kernel_rfl
def c_0000 : X := .cmp .eql (.bin .quo .i64 (.iv 27) (.lit (.ofNat 16384))) (.lit (.ofNat 8))
def c_00001 : X := .cmp .eql (.bin .rem .i64 (.iv 27) (.lit (.ofNat 16384))) (.lit (.ofNat 0))
def K_000011 : Known := (((((((⟨ks3.map LK.rg, []⟩ : Known).assume c_ false).assume c_0 false).assume c_00 false).assume c_000 false).assume c_0000 true).assume c_00001 true)
theorem leaf_000011 : X.prove 20 60 K_000011 (.bl false) = true := by kernel_rfl
def c_000010 : X := .cmp .eql (.bin .quo .i64 (.iv 27) (.lit (.ofNat 8192))) (.lit (.ofNat 1))
def c_0000101 : X := .cmp .eql (.bin .rem .i64 (.iv 27) (.lit (.ofNat 8192))) (.lit (.ofNat 0))
def K_00001011 : Known := (((((((((⟨ks3.map LK.rg, []⟩ : Known).assume c_ false).assume c_0 false).assume c_00 false).assume c_000 false).assume c_0000 true).assume c_00001 false).assume c_000010 true).assume c_0000101 true)
theorem leaf_00001011 : X.prove 20 60 K_00001011 (.bl false) = true := by kernel_rfl
def K_00001010 : Known := (((((((((⟨ks3.map LK.rg, []⟩ : Known).assume c_ false).assume c_0 false).assume c_00 false).assume c_000 false).assume c_0000 true).assume c_00001 false).assume c_000010 true).assume c_0000101 false)
theorem leaf_00001010 : X.prove 20 60 K_00001010 (.bl false) = true := by kernel_rfl
def c_0000100 : X := .cmp .eql (.bin .quo .i64 (.iv 27) (.lit (.ofNat 8192))) (.lit (.ofNat 2))
def c_00001001 : X := .cmp .eql (.bin .rem .i64 (.iv 27) (.lit (.ofNat 8192))) (.lit (.ofNat 0))
def K_000010011 : Known := ((((((((((⟨ks3.map LK.rg, []⟩ : Known).assume c_ false).assume c_0 false).assume c_00 false).assume c_000 false).assume c_0000 true).assume c_00001 false).assume c_000010 false).assume c_0000100 true).assume c_00001001 true)
theorem leaf_000010011 : X.prove 20 60 K_000010011 (.bl false) = true := by kernel_rfl
def K_000010010 : Known := ((((((((((⟨ks3.map LK.rg, []⟩ : Known).assume c_ false).assume c_0 false).assume c_00 false).assume c_000 false).assume c_0000 true).assume c_00001 false).assume c_000010 false).assume c_0000100 true).assume c_00001001 false)
theorem leaf_000010010 : X.prove 20 60 K_000010010 (.bl false) = true := by kernel_rfl
def c_00001000 : X := .cmp .eql (.bin .quo .i64 (.iv 27) (.lit (.ofNat 8192))) (.lit (.ofNat 4))
def c_000010001 : X := .cmp .eql (.bin .rem .i64 (.iv 27) (.lit (.ofNat 8192))) (.lit (.ofNat 0))
def K_0000100011 : Known := (((((((((((⟨ks3.map LK.rg, []⟩ : Known).assume c_ false).assume c_0 false).assume c_00 false).assume c_000 false).assume c_0000 true).assume c_00001 false).assume c_000010 false).assume c_0000100 false).assume c_00001000 true).assume c_000010001 true)
theorem leaf_0000100011 : X.prove 20 60 K_0000100011 (.bl false) = true := by kernel_rfl
def K_0000100010 : Known := (((((((((((⟨ks3.map LK.rg, []⟩ : Known).assume c_ false).assume c_0 false).assume c_00 false).assume c_000 false).assume c_0000 true).assume c_00001 false).assume c_000010 false).assume c_0000100 false).assume c_00001000 true).assume c_000010001 false)
theorem leaf_0000100010 : X.prove 20 60 K_0000100010 (.bl false) = true := by kernel_rfl
def c_000010000 : X := .cmp .eql (.bin .quo .i64 (.iv 27) (.lit (.ofNat 8192))) (.lit (.ofNat 8))
def c_0000100001 : X := .cmp .eql (.bin .rem .i64 (.iv 27) (.lit (.ofNat 8192))) (.lit (.ofNat 0))
def K_00001000011 : Known := ((((((((((((⟨ks3.map LK.rg, []⟩ : Known).assume c_ false).assume c_0 false).assume c_00 false).assume c_000 false).assume c_0000 true).assume c_00001 false).assume c_000010 false).assume c_0000100 false).assume c_00001000 false).assume c_000010000 true).assume c_0000100001 true)
theorem leaf_00001000011 : X.prove 20 60 K_00001000011 (.bl false) = true := by kernel_rfl
def K_00001000010 : Known := ((((((((((((⟨ks3.map LK.rg, []⟩ : Known).assume c_ false).assume c_0 false).assume c_00 false).assume c_000 false).assume c_0000 true).assume c_00001 false).assume c_000010 false).assume c_0000100 false).assume c_00001000 false).assume c_000010000 true).assume c_0000100001 false)
theorem leaf_00001000010 : X.prove 20 60 K_00001000010 (.bl false) = true := by kernel_rfl
def c_0000100000 : X := .cmp .eql (.bin .quo .i64 (.iv 27) (.lit (.ofNat 8192))) (.lit (.ofNat 16))
def c_00001000001 : X := .cmp .eql (.bin .rem .i64 (.iv 27) (.lit (.ofNat 8192))) (.lit (.ofNat 0))
def K_000010000011 : Known := (((((((((((((⟨ks3.map LK.rg, []⟩ : Known).assume c_ false).assume c_0 false).assume c_00 false).assume c_000 false).assume c_0000 true).assume c_00001 false).assume c_000010 false).assume c_0000100 false).assume c_00001000 false).assume c_000010000 false).assume c_0000100000 true).assume c_00001000001 true)
theorem leaf_000010000011 : X.prove 20 60 K_000010000011 (.bl false) = true := by kernel_rfl
def K_000010000010 : Known := (((((((((((((⟨ks3.map LK.rg, []⟩ : Known).assume c_ false).assume c_0 false).assume c_00 false).assume c_000 false).assume c_0000 true).assume c_00001 false).assume c_000010 false).assume c_0000100 false).assume c_00001000 false).assume c_000010000 false).assume c_0000100000 true).assume c_00001000001 false)
theorem leaf_000010000010 : (tree Try.prog 0 (sumsIn sums10) 300 3 ss3 bare 6 K_000010000010).prove 300 1000 K_000010000010 = true := by kernel_rfl
def c_00001000000 : X := .cmp .eql (.bin .quo .i64 (.iv 27) (.lit (.ofNat 8192))) (.lit (.ofNat 32))
def c_000010000001 : X := .cmp .eql (.bin .rem .i64 (.iv 27) (.lit (.ofNat 8192))) (.lit (.ofNat 0))
def K_0000100000011 : Known := ((((((((((((((⟨ks3.map LK.rg, []⟩ : Known).assume c_ false).assume c_0 false).assume c_00 false).assume c_000 false).assume c_0000 true).assume c_00001 false).assume c_000010 false).assume c_0000100 false).assume c_00001000 false).assume c_000010000 false).assume c_0000100000 false).assume c_00001000000 true).assume c_000010000001 true)
theorem leaf_0000100000011 : X.prove 20 60 K_0000100000011 (.bl false) = true := by kernel_rfl
def K_0000100000010 : Known := ((((((((((((((⟨ks3.map LK.rg, []⟩ : Known).assume c_ false).assume c_0 false).assume c_00 false).assume c_000 false).assume c_0000 true).assume c_00001 false).assume c_000010 false).assume c_0000100 false).assume c_00001000 false).assume c_000010000 false).assume c_0000100000 false).assume c_00001000000 true).assume c_000010000001 false)
theorem leaf_0000100000010 : X.prove 20 60 K_0000100000010 (.bl false) = true := by kernel_rfl
def K_000010000000 : Known := (((((((((((((⟨ks3.map LK.rg, []⟩ : Known).assume c_ false).assume c_0 false).assume c_00 false).assume c_000 false).assume c_0000 true).assume c_00001 false).assume c_000010 false).assume c_0000100 false).assume c_00001000 false).assume c_000010000 false).assume c_0000100000 false).assume c_00001000000 false)
theorem leaf_000010000000 : (tree Try.prog 0 (sumsIn sums10) 300 3 ss3 bare 6 K_000010000000).prove 300 1000 K_000010000000 = true := by kernel_rfl
def c_00000 : X := .cmp .eql (.bin .quo .i64 (.iv 27) (.lit (.ofNat 16384))) (.lit (.ofNat 16))
def c_000001 : X := .cmp .eql (.bin .rem .i64 (.iv 27) (.lit (.ofNat 16384))) (.lit (.ofNat 0))
def K_0000011 : Known := ((((((((⟨ks3.map LK.rg, []⟩ : Known).assume c_ false).assume c_0 false).assume c_00 false).assume c_000 false).assume c_0000 false).assume c_00000 true).assume c_000001 true)
theorem leaf_0000011 : X.prove 20 60 K_0000011 (.bl false) = true := by kernel_rfl
def c_0000010 : X := .cmp .eql (.bin .quo .i64 (.iv 27) (.lit (.ofNat 8192))) (.lit (.ofNat 1))
def c_00000101 : X := .cmp .eql (.bin .rem .i64 (.iv 27) (.lit (.ofNat 8192))) (.lit (.ofNat 0))
def K_000001011 : Known := ((((((((((⟨ks3.map LK.rg, []⟩ : Known).assume c_ false).assume c_0 false).assume c_00 false).assume c_000 false).assume c_0000 false).assume c_00000 true).assume c_000001 false).assume c_0000010 true).assume c_00000101 true)
theorem leaf_000001011 : X.prove 20 60 K_000001011 (.bl false) = true := by kernel_rfl
def K_000001010 : Known := ((((((((((⟨ks3.map LK.rg, []⟩ : Known).assume c_ false).assume c_0 false).assume c_00 false).assume c_000 false).assume c_0000 false).assume c_00000 true).assume c_000001 false).assume c_0000010 true).assume c_00000101 false)
theorem leaf_000001010 : X.prove 20 60 K_000001010 (.bl false) = true := by kernel_rfl
def c_00000100 : X := .cmp .eql (.bin .quo .i64 (.iv 27) (.lit (.ofNat 8192))) (.lit (.ofNat 2))
def c_000001001 : X := .cmp .eql (.bin .rem .i64 (.iv 27) (.lit (.ofNat 8192))) (.lit (.ofNat 0))
def K_0000010011 : Known := (((((((((((⟨ks3.map LK.rg, []⟩ : Known).assume c_ false).assume c_0 false).assume c_00 false).assume c_000 false).assume c_0000 false).assume c_00000 true).assume c_000001 false).assume c_0000010 false).assume c_00000100 true).assume c_000001001 true)
theorem leaf_0000010011 : X.prove 20 60 K_0000010011 (.bl false) = true := by kernel_rfl
def K_0000010010 : Known := (((((((((((⟨ks3.map LK.rg, []⟩ : Known).assume c_ false).assume c_0 false).assume c_00 false).assume c_000 false).assume c_0000 false).assume c_00000 true).assume c_000001 false).assume c_0000010 false).assume c_00000100 true).assume c_000001001 false)
theorem leaf_0000010010 : X.prove 20 60 K_0000010010 (.bl false) = true := by kernel_rfl
def c_000001000 : X := .cmp .eql (.bin .quo .i64 (.iv 27) (.lit (.ofNat 8192))) (.lit (.ofNat 4))
def c_0000010001 : X := .cmp .eql (.bin .rem .i64 (.iv 27) (.lit (.ofNat 8192))) (.lit (.ofNat 0))
def K_00000100011 : Known := ((((((((((((⟨ks3.map LK.rg, []⟩ : Known).assume c_ false).assume c_0 false).assume c_00 false).assume c_000 false).assume c_0000 false).assume c_00000 true).assume c_000001 false).assume c_0000010 false).assume c_00000100 false).assume c_000001000 true).assume c_0000010001 true)
theorem leaf_00000100011 : X.prove 20 60 K_00000100011 (.bl false) = true := by kernel_rfl
def K_00000100010 : Known := ((((((((((((⟨ks3.map LK.rg, []⟩ : Known).assume c_ false).assume c_0 false).assume c_00 false).assume c_000 false).assume c_0000 false).assume c_00000 true).assume c_000001 false).assume c_0000010 false).assume c_00000100 false).assume c_000001000 true).assume c_0000010001 false)
theorem leaf_00000100010 : X.prove 20 60 K_00000100010 (.bl false) = true := by kernel_rfl
def c_0000010000 : X := .cmp .eql (.bin .quo .i64 (.iv 27) (.lit (.ofNat 8192))) (.lit (.ofNat 8))
def c_00000100001 : X := .cmp .eql (.bin .rem .i64 (.iv 27) (.lit (.ofNat 8192))) (.lit (.ofNat 0))
def K_000001000011 : Known := (((((((((((((⟨ks3.map LK.rg, []⟩ : Known).assume c_ false).assume c_0 false).assume c_00 false).assume c_000 false).assume c_0000 false).assume c_00000 true).assume c_000001 false).assume c_0000010 false).assume c_00000100 false).assume c_000001000 false).assume c_0000010000 true).assume c_00000100001 true)
theorem leaf_000001000011 : X.prove 20 60 K_000001000011 (.bl false) = true := by kernel_rfl
def K_000001000010 : Known := (((((((((((((⟨ks3.map LK.rg, []⟩ : Known).assume c_ false).assume c_0 false).assume c_00 false).assume c_000 false).assume c_0000 false).assume c_00000 true).assume c_000001 false).assume c_0000010 false).assume c_00000100 false).assume c_000001000 false).assume c_0000010000 true).assume c_00000100001 false)
theorem leaf_000001000010 : X.prove 20 60 K_000001000010 (.bl false) = true := by kernel_rfl
def c_00000100000 : X := .cmp .eql (.bin .quo .i64 (.iv 27) (.lit (.ofNat 8192))) (.lit (.ofNat 16))
def c_000001000001 : X := .cmp .eql (.bin .rem .i64 (.iv 27) (.lit (.ofNat 8192))) (.lit (.ofNat 0))
def K_0000010000011 : Known := ((((((((((((((⟨ks3.map LK.rg, []⟩ : Known).assume c_ false).assume c_0 false).assume c_00 false).assume c_000 false).assume c_0000 false).assume c_00000 true).assume c_000001 false).assume c_0000010 false).assume c_00000100 false).assume c_000001000 false).assume c_0000010000 false).assume c_00000100000 true).assume c_000001000001 true)
theorem leaf_0000010000011 : X.prove 20 60 K_0000010000011 (.bl false) = true := by kernel_rfl
def K_0000010000010 : Known := ((((((((((((((⟨ks3.map LK.rg, []⟩ : Known).assume c_ false).assume c_0 false).assume c_00 false).assume c_000 false).assume c_0000 false).assume c_00000 true).assume c_000001 false).assume c_0000010 false).assume c_00000100 false).assume c_000001000 false).assume c_0000010000 false).assume c_00000100000 true).assume c_000001000001 false)
theorem leaf_0000010000010 : X.prove 20 60 K_0000010000010 (.bl false) = true := by kernel_rfl
def c_000001000000 : X := .cmp .eql (.bin .quo .i64 (.iv 27) (.lit (.ofNat 8192))) (.lit (.ofNat 32))
def c_0000010000001 : X := .cmp .eql (.bin .rem .i64 (.iv 27) (.lit (.ofNat 8192))) (.lit (.ofNat 0))
def K_00000100000011 : Known := (((((((((((((((⟨ks3.map LK.rg, []⟩ : Known).assume c_ false).assume c_0 false).assume c_00 false).assume c_000 false).assume c_0000 false).assume c_00000 true).assume c_000001 false).assume c_0000010 false).assume c_00000100 false).assume c_000001000 false).assume c_0000010000 false).assume c_00000100000 false).assume c_000001000000 true).assume c_0000010000001 true)
theorem leaf_00000100000011 : X.prove 20 60 K_00000100000011 (.bl false) = true := by kernel_rfl
def K_00000100000010 : Known := (((((((((((((((⟨ks3.map LK.rg, []⟩ : Known).assume c_ false).assume c_0 false).assume c_00 false).assume c_000 false).assume c_0000 false).assume c_00000 true).assume c_000001 false).assume c_0000010 false).assume c_00000100 false).assume c_000001000 false).assume c_0000010000 false).assume c_00000100000 false).assume c_000001000000 true).assume c_0000010000001 false)
theorem leaf_00000100000010 : (tree Try.prog 0 (sumsIn sums10) 300 3 ss3 bare 6 K_00000100000010).prove 300 1000 K_00000100000010 = true := by kernel_rfl
def K_0000010000000 : Known := ((((((((((((((⟨ks3.map LK.rg, []⟩ : Known).assume c_ false).assume c_0 false).assume c_00 false).assume c_000 false).assume c_0000 false).assume c_00000 true).assume c_000001 false).assume c_0000010 false).assume c_00000100 false).assume c_000001000 false).assume c_0000010000 false).assume c_00000100000 false).assume c_000001000000 false)
theorem leaf_0000010000000 : (tree Try.prog 0 (sumsIn sums10) 300 3 ss3 bare 6 K_0000010000000).prove 300 1000 K_0000010000000 = true := by kernel_rfl
def c_000000 : X := .cmp .eql (.bin .quo .i64 (.iv 27) (.lit (.ofNat 16384))) (.lit (.ofNat 32))
def c_0000001 : X := .cmp .eql (.bin .rem .i64 (.iv 27) (.lit (.ofNat 16384))) (.lit (.ofNat 0))
def K_00000011 : Known := (((((((((⟨ks3.map LK.rg, []⟩ : Known).assume c_ false).assume c_0 false).assume c_00 false).assume c_000 false).assume c_0000 false).assume c_00000 false).assume c_000000 true).assume c_0000001 true)
theorem leaf_00000011 : X.prove 20 60 K_00000011 (.bl false) = true := by kernel_rfl
def c_00000010 : X := .cmp .eql (.bin .quo .i64 (.iv 27) (.lit (.ofNat 8192))) (.lit (.ofNat 1))
def c_000000101 : X := .cmp .eql (.bin .rem .i64 (.iv 27) (.lit (.ofNat 8192))) (.lit (.ofNat 0))
def K_0000001011 : Known := (((((((((((⟨ks3.map LK.rg, []⟩ : Known).assume c_ false).assume c_0 false).assume c_00 false).assume c_000 false).assume c_0000 false).assume c_00000 false).assume c_000000 true).assume c_0000001 false).assume c_00000010 true).assume c_000000101 true)
theorem leaf_0000001011 : X.prove 20 60 K_0000001011 (.bl false) = true := by kernel_rfl
def K_0000001010 : Known := (((((((((((⟨ks3.map LK.rg, []⟩ : Known).assume c_ false).assume c_0 false).assume c_00 false).assume c_000 false).assume c_0000 false).assume c_00000 false).assume c_000000 true).assume c_0000001 false).assume c_00000010 true).assume c_000000101 false)
theorem leaf_0000001010 : X.prove 20 60 K_0000001010 (.bl false) = true := by kernel_rfl
def c_000000100 : X := .cmp .eql (.bin .quo .i64 (.iv 27) (.lit (.ofNat 8192))) (.lit (.ofNat 2))
def c_0000001001 : X := .cmp .eql (.bin .rem .i64 (.iv 27) (.lit (.ofNat 8192))) (.lit (.ofNat 0))
def K_00000010011 : Known := ((((((((((((⟨ks3.map LK.rg, []⟩ : Known).assume c_ false).assume c_0 false).assume c_00 false).assume c_000 false).assume c_0000 false).assume c_00000 false).assume c_000000 true).assume c_0000001 false).assume c_00000010 false).assume c_000000100 true).assume c_0000001001 true)
theorem leaf_00000010011 : X.prove 20 60 K_00000010011 (.bl false) = true := by kernel_rfl
def K_00000010010 : Known := ((((((((((((⟨ks3.map LK.rg, []⟩ : Known).assume c_ false).assume c_0 false).assume c_00 false).assume c_000 false).assume c_0000 false).assume c_00000 false).assume c_000000 true).assume c_0000001 false).assume c_00000010 false).assume c_000000100 true).assume c_0000001001 false)
theorem leaf_00000010010 : X.prove 20 60 K_00000010010 (.bl false) = true := by kernel_rfl
def c_0000001000 : X := .cmp .eql (.bin .quo .i64 (.iv 27) (.lit (.ofNat 8192))) (.lit (.ofNat 4))
def c_00000010001 : X := .cmp .eql (.bin .rem .i64 (.iv 27) (.lit (.ofNat 8192))) (.lit (.ofNat 0))
def K_000000100011 : Known := (((((((((((((⟨ks3.map LK.rg, []⟩ : Known).assume c_ false).assume c_0 false).assume c_00 false).assume c_000 false).assume c_0000 false).assume c_00000 false).assume c_000000 true).assume c_0000001 false).assume c_00000010 false).assume c_000000100 false).assume c_0000001000 true).assume c_00000010001 true)
theorem leaf_000000100011 : X.prove 20 60 K_000000100011 (.bl false) = true := by kernel_rfl
def K_000000100010 : Known := (((((((((((((⟨ks3.map LK.rg, []⟩ : Known).assume c_ false).assume c_0 false).assume c_00 false).assume c_000 false).assume c_0000 false).assume c_00000 false).assume c_000000 true).assume c_0000001 false).assume c_00000010 false).assume c_000000100 false).assume c_0000001000 true).assume c_00000010001 false)
theorem leaf_000000100010 : X.prove 20 60 K_000000100010 (.bl false) = true := by kernel_rfl
def c_00000010000 : X := .cmp .eql (.bin .quo .i64 (.iv 27) (.lit (.ofNat 8192))) (.lit (.ofNat 8))
def c_000000100001 : X := .cmp .eql (.bin .rem .i64 (.iv 27) (.lit (.ofNat 8192))) (.lit (.ofNat 0))
def K_0000001000011 : Known := ((((((((((((((⟨ks3.map LK.rg, []⟩ : Known).assume c_ false).assume c_0 false).assume c_00 false).assume c_000 false).assume c_0000 false).assume c_00000 false).assume c_000000 true).assume c_0000001 false).assume c_00000010 false).assume c_000000100 false).assume c_0000001000 false).assume c_00000010000 true).assume c_000000100001 true)
theorem leaf_0000001000011 : X.prove 20 60 K_0000001000011 (.bl false) = true := by kernel_rfl
def K_0000001000010 : Known := ((((((((((((((⟨ks3.map LK.rg, []⟩ : Known).assume c_ false).assume c_0 false).assume c_00 false).assume c_000 false).assume c_0000 false).assume c_00000 false).assume c_000000 true).assume c_0000001 false).assume c_00000010 false).assume c_000000100 false).assume c_0000001000 false).assume c_00000010000 true).assume c_000000100001 false)
theorem leaf_0000001000010 : X.prove 20 60 K_0000001000010 (.bl false) = true := by kernel_rfl
def c_000000100000 : X := .cmp .eql (.bin .quo .i64 (.iv 27) (.lit (.ofNat 8192))) (.lit (.ofNat 16))
def c_0000001000001 : X := .cmp .eql (.bin .rem .i64 (.iv 27) (.lit (.ofNat 8192))) (.lit (.ofNat 0))
def K_00000010000011 : Known := (((((((((((((((⟨ks3.map LK.rg, []⟩ : Known).assume c_ false).assume c_0 false).assume c_00 false).assume c_000 false).assume c_0000 false).assume c_00000 false).assume c_000000 true).assume c_0000001 false).assume c_00000010 false).assume c_000000100 false).assume c_0000001000 false).assume c_00000010000 false).assume c_000000100000 true).assume c_0000001000001 true)
theorem leaf_00000010000011 : X.prove 20 60 K_00000010000011 (.bl false) = true := by kernel_rfl
def K_00000010000010 : Known := (((((((((((((((⟨ks3.map LK.rg, []⟩ : Known).assume c_ false).assume c_0 false).assume c_00 false).assume c_000 false).assume c_0000 false).assume c_00000 false).assume c_000000 true).assume c_0000001 false).assume c_00000010 false).assume c_000000100 false).assume c_0000001000 false).assume c_00000010000 false).assume c_000000100000 true).assume c_0000001000001 false)
theorem leaf_00000010000010 : X.prove 20 60 K_00000010000010 (.bl false) = true := by kernel_rfl
def c_0000001000000 : X := .cmp .eql (.bin .quo .i64 (.iv 27) (.lit (.ofNat 8192))) (.lit (.ofNat 32))
def c_00000010000001 : X := .cmp .eql (.bin .rem .i64 (.iv 27) (.lit (.ofNat 8192))) (.lit (.ofNat 0))
def K_000000100000011 : Known := ((((((((((((((((⟨ks3.map LK.rg, []⟩ : Known).assume c_ false).assume c_0 false).assume c_00 false).assume c_000 false).assume c_0000 false).assume c_00000 false).assume c_000000 true).assume c_0000001 false).assume c_00000010 false).assume c_000000100 false).assume c_0000001000 false).assume c_00000010000 false).assume c_000000100000 false).assume c_0000001000000 true).assume c_00000010000001 true)
theorem leaf_000000100000011 : X.prove 20 60 K_000000100000011 (.bl false) = true := by kernel_rfl
def K_000000100000010 : Known := ((((((((((((((((⟨ks3.map LK.rg, []⟩ : Known).assume c_ false).assume c_0 false).assume c_00 false).assume c_000 false).assume c_0000 false).assume c_00000 false).assume c_000000 true).assume c_0000001 false).assume c_00000010 false).assume c_000000100 false).assume c_0000001000 false).assume c_00000010000 false).assume c_000000100000 false).assume c_0000001000000 true).assume c_00000010000001 false)
theorem leaf_000000100000010 : X.prove 20 60 K_000000100000010 (.bl false) = true := by kernel_rfl
def K_00000010000000 : Known := (((((((((((((((⟨ks3.map LK.rg, []⟩ : Known).assume c_ false).assume c_0 false).assume c_00 false).assume c_000 false).assume c_0000 false).assume c_00000 false).assume c_000000 true).assume c_0000001 false).assume c_00000010 false).assume c_000000100 false).assume c_0000001000 false).assume c_00000010000 false).assume c_000000100000 false).assume c_0000001000000 false)
theorem leaf_00000010000000 : (tree Try.prog 0 (sumsIn sums10) 300 3 ss3 bare 6 K_00000010000000).prove 300 1000 K_00000010000000 = true := by kernel_rfl
def c_0000000 : X := .cmp .eql (.bin .quo .i64 (.iv 27) (.lit (.ofNat 8192))) (.lit (.ofNat 1))
def c_00000001 : X := .cmp .eql (.bin .rem .i64 (.iv 27) (.lit (.ofNat 8192))) (.lit (.ofNat 0))
def K_000000011 : Known := ((((((((((⟨ks3.map LK.rg, []⟩ : Known).assume c_ false).assume c_0 false).assume c_00 false).assume c_000 false).assume c_0000 false).assume c_00000 false).assume c_000000 false).assume c_0000000 true).assume c_00000001 true)
theorem leaf_000000011 : X.prove 20 60 K_000000011 (.bl false) = true := by kernel_rfl
def K_000000010 : Known := ((((((((((⟨ks3.map LK.rg, []⟩ : Known).assume c_ false).assume c_0 false).assume c_00 false).assume c_000 false).assume c_0000 false).assume c_00000 false).assume c_000000 false).assume c_0000000 true).assume c_00000001 false)
theorem leaf_000000010 : (tree Try.prog 0 (sumsIn sums10) 300 3 ss3 bare 6 K_000000010).prove 300 1000 K_000000010 = true := by kernel_rfl
def c_00000000 : X := .cmp .eql (.bin .quo .i64 (.iv 27) (.lit (.ofNat 8192))) (.lit (.ofNat 2))
def c_000000001 : X := .cmp .eql (.bin .rem .i64 (.iv 27) (.lit (.ofNat 8192))) (.lit (.ofNat 0))
def K_0000000011 : Known := (((((((((((⟨ks3.map LK.rg, []⟩ : Known).assume c_ false).assume c_0 false).assume c_00 false).assume c_000 false).assume c_0000 false).assume c_00000 false).assume c_000000 false).assume c_0000000 false).assume c_00000000 true).assume c_000000001 true)
theorem leaf_0000000011 : X.prove 20 60 K_0000000011 (.bl false) = true := by kernel_rfl
def K_0000000010 : Known := (((((((((((⟨ks3.map LK.rg, []⟩ : Known).assume c_ false).assume c_0 false).assume c_00 false).assume c_000 false).assume c_0000 false).assume c_00000 false).assume c_000000 false).assume c_0000000 false).assume c_00000000 true).assume c_000000001 false)
theorem leaf_0000000010 : X.prove 20 60 K_0000000010 (.bl false) = true := by kernel_rfl
def c_000000000 : X := .cmp .eql (.bin .quo .i64 (.iv 27) (.lit (.ofNat 8192))) (.lit (.ofNat 4))
def c_0000000001 : X := .cmp .eql (.bin .rem .i64 (.iv 27) (.lit (.ofNat 8192))) (.lit (.ofNat 0))
def K_00000000011 : Known := ((((((((((((⟨ks3.map LK.rg, []⟩ : Known).assume c_ false).assume c_0 false).assume c_00 false).assume c_000 false).assume c_0000 false).assume c_00000 false).assume c_000000 false).assume c_0000000 false).assume c_00000000 false).assume c_000000000 true).assume c_0000000001 true)
theorem leaf_00000000011 : X.prove 20 60 K_00000000011 (.bl false) = true := by kernel_rfl
def K_00000000010 : Known := ((((((((((((⟨ks3.map LK.rg, []⟩ : Known).assume c_ false).assume c_0 false).assume c_00 false).assume c_000 false).assume c_0000 false).assume c_00000 false).assume c_000000 false).assume c_0000000 false).assume c_00000000 false).assume c_000000000 true).assume c_0000000001 false)
theorem leaf_00000000010 : X.prove 20 60 K_00000000010 (.bl false) = true := by kernel_rfl
def c_0000000000 : X := .cmp .eql (.bin .quo .i64 (.iv 27) (.lit (.ofNat 8192))) (.lit (.ofNat 8))
def c_00000000001 : X := .cmp .eql (.bin .rem .i64 (.iv 27) (.lit (.ofNat 8192))) (.lit (.ofNat 0))
def K_000000000011 : Known := (((((((((((((⟨ks3.map LK.rg, []⟩ : Known).assume c_ false).assume c_0 false).assume c_00 false).assume c_000 false).assume c_0000 false).assume c_00000 false).assume c_000000 false).assume c_0000000 false).assume c_00000000 false).assume c_000000000 false).assume c_0000000000 true).assume c_00000000001 true)
theorem leaf_000000000011 : X.prove 20 60 K_000000000011 (.bl false) = true := by kernel_rfl
def K_000000000010 : Known := (((((((((((((⟨ks3.map LK.rg, []⟩ : Known).assume c_ false).assume c_0 false).assume c_00 false).assume c_000 false).assume c_0000 false).assume c_00000 false).assume c_000000 false).assume c_0000000 false).assume c_00000000 false).assume c_000000000 false).assume c_0000000000 true).assume c_00000000001 false)
theorem leaf_000000000010 : (tree Try.prog 0 (sumsIn sums10) 300 3 ss3 bare 6 K_000000000010).prove 300 1000 K_000000000010 = true := by kernel_rfl
def c_00000000000 : X := .cmp .eql (.bin .quo .i64 (.iv 27) (.lit (.ofNat 8192))) (.lit (.ofNat 16))
def c_000000000001 : X := .cmp .eql (.bin .rem .i64 (.iv 27) (.lit (.ofNat 8192))) (.lit (.ofNat 0))
def K_0000000000011 : Known := ((((((((((((((⟨ks3.map LK.rg, []⟩ : Known).assume c_ false).assume c_0 false).assume c_00 false).assume c_000 false).assume c_0000 false).assume c_00000 false).assume c_000000 false).assume c_0000000 false).assume c_00000000 false).assume c_000000000 false).assume c_0000000000 false).assume c_00000000000 true).assume c_000000000001 true)
theorem leaf_0000000000011 : X.prove 20 60 K_0000000000011 (.bl false) = true := by kernel_rfl
def K_0000000000010 : Known := ((((((((((((((⟨ks3.map LK.rg, []⟩ : Known).assume c_ false).assume c_0 false).assume c_00 false).assume c_000 false).assume c_0000 false).assume c_00000 false).assume c_000000 false).assume c_0000000 false).assume c_00000000 false).assume c_000000000 false).assume c_0000000000 false).assume c_00000000000 true).assume c_000000000001 false)
theorem leaf_0000000000010 : (tree Try.prog 0 (sumsIn sums10) 300 3 ss3 bare 6 K_0000000000010).prove 300 1000 K_0000000000010 = true := by kernel_rfl
def c_000000000000 : X := .cmp .eql (.bin .quo .i64 (.iv 27) (.lit (.ofNat 8192))) (.lit (.ofNat 32))
def c_0000000000001 : X := .cmp .eql (.bin .rem .i64 (.iv 27) (.lit (.ofNat 8192))) (.lit (.ofNat 0))
def K_00000000000011 : Known := (((((((((((((((⟨ks3.map LK.rg, []⟩ : Known).assume c_ false).assume c_0 false).assume c_00 false).assume c_000 false).assume c_0000 false).assume c_00000 false).assume c_000000 false).assume c_0000000 false).assume c_00000000 false).assume c_000000000 false).assume c_0000000000 false).assume c_00000000000 false).assume c_000000000000 true).assume c_0000000000001 true)
theorem leaf_00000000000011 : X.prove 20 60 K_00000000000011 (.bl false) = true := by kernel_rfl
def K_00000000000010 : Known := (((((((((((((((⟨ks3.map LK.rg, []⟩ : Known).assume c_ false).assume c_0 false).assume c_00 false).assume c_000 false).assume c_0000 false).assume c_00000 false).assume c_000000 false).assume c_0000000 false).assume c_00000000 false).assume c_000000000 false).assume c_0000000000 false).assume c_00000000000 false).assume c_000000000000 true).assume c_0000000000001 false)
theorem leaf_00000000000010 : (tree Try.prog 0 (sumsIn sums10) 300 3 ss3 bare 6 K_00000000000010).prove 300 1000 K_00000000000010 = true := by kernel_rfl
def K_0000000000000 : Known := ((((((((((((((⟨ks3.map LK.rg, []⟩ : Known).assume c_ false).assume c_0 false).assume c_00 false).assume c_000 false).assume c_0000 false).assume c_00000 false).assume c_000000 false).assume c_0000000 false).assume c_00000000 false).assume c_000000000 false).assume c_0000000000 false).assume c_00000000000 false).assume c_000000000000 false)
theorem leaf_0000000000000 : (tree Try.prog 0 (sumsIn sums10) 300 3 ss3 bare 6 K_0000000000000).prove 300 1000 K_0000000000000 = true := by kernel_rfl
theorem plan3 : ∀ ρ, (⟨ks3.map LK.rg, []⟩ : Known).ok ρ → ∃ K d, K.ok ρ ∧ (tree Try.prog 0 (sumsIn sums10) 300 3 ss3 bare d K).prove 300 1000 K = true := fun _ h => split_on c_ h (fun h => split_on c_1 h (fun h => ⟨K_11, 6, h, leaf_11⟩) (fun h => split_on c_10 h (fun h => ⟨K_101, 6, h, leaf_101⟩) (fun h => split_on c_100 h (fun h => ⟨K_1001, 6, h, leaf_1001⟩) (fun h => split_on c_1000 h (fun h => ⟨K_10001, 6, h, leaf_10001⟩) (fun h => split_on c_10000 h (fun h => ⟨K_100001, 6, h, leaf_100001⟩) (fun h => split_on c_100000 h (fun h => split_on c_1000001 h (fun h => ⟨K_10000011, 6, h, leaf_10000011⟩) (fun h => split_on c_10000010 h (fun h => ⟨K_100000101, 6, h, leaf_100000101⟩) (fun h => split_on c_100000100 h (fun h => ⟨K_1000001001, 6, h, leaf_1000001001⟩) (fun h => split_on c_1000001000 h (fun h => ⟨K_10000010001, 6, h, leaf_10000010001⟩) (fun h => split_on c_10000010000 h (fun h => ⟨K_100000100001, 6, h, leaf_100000100001⟩) (fun h => split_on c_100000100000 h (fun h => ⟨K_1000001000001, 6, h, leaf_1000001000001⟩) (fun h => split_on c_1000001000000 h (fun h => ⟨K_10000010000001, 6, h, leaf_10000010000001⟩) (fun h => split_on c_10000010000000 h (fun h => ⟨K_100000100000001, 6, h, leaf_100000100000001⟩) (fun h => split_on c_100000100000000 h (fun h => ⟨K_1000001000000001, 6, h, leaf_1000001000000001⟩) (fun h => split_on c_1000001000000000 h (fun h => ⟨K_10000010000000001, 6, h, leaf_10000010000000001⟩) (fun h => split_on c_10000010000000000 h (fun h => ⟨K_100000100000000001, 6, h, leaf_100000100000000001⟩) (fun h => split_void h leaf_100000100000000000)))))))))))) (fun h => split_on c_1000000 h (fun h => split_on c_10000001 h (fun h => ⟨K_100000011, 6, h, leaf_100000011⟩) (fun h => split_on c_100000010 h (fun h => ⟨K_1000000101, 6, h, leaf_1000000101⟩) (fun h => split_on c_1000000100 h (fun h => ⟨K_10000001001, 6, h, leaf_10000001001⟩) (fun h => split_on c_10000001000 h (fun h => ⟨K_100000010001, 6, h, leaf_100000010001⟩) (fun h => split_on c_100000010000 h (fun h => ⟨K_1000000100001, 6, h, leaf_1000000100001⟩) (fun h => split_on c_1000000100000 h (fun h => ⟨K_10000001000001, 6, h, leaf_10000001000001⟩) (fun h => split_on c_10000001000000 h (fun h => ⟨K_100000010000001, 6, h, leaf_100000010000001⟩) (fun h => split_on c_100000010000000 h (fun h => ⟨K_1000000100000001, 6, h, leaf_1000000100000001⟩) (fun h => split_on c_1000000100000000 h (fun h => ⟨K_10000001000000001, 6, h, leaf_10000001000000001⟩) (fun h => split_on c_10000001000000000 h (fun h => ⟨K_100000010000000001, 6, h, leaf_100000010000000001⟩) (fun h => split_on c_100000010000000000 h (fun h => ⟨K_1000000100000000001, 6, h, leaf_1000000100000000001⟩) (fun h => split_void h leaf_1000000100000000000)))))))))))) (fun h => split_on c_10000000 h (fun h => split_on c_100000001 h (fun h => ⟨K_1000000011, 6, h, leaf_1000000011⟩) (fun h => split_on c_1000000010 h (fun h => ⟨K_10000000101, 6, h, leaf_10000000101⟩) (fun h => split_on c_10000000100 h (fun h => ⟨K_100000001001, 6, h, leaf_100000001001⟩) (fun h => split_on c_100000001000 h (fun h => ⟨K_1000000010001, 6, h, leaf_1000000010001⟩) (fun h => split_on c_1000000010000 h (fun h => ⟨K_10000000100001, 6, h, leaf_10000000100001⟩) (fun h => split_on c_10000000100000 h (fun h => ⟨K_100000001000001, 6, h, leaf_100000001000001⟩) (fun h => split_on c_100000001000000 h (fun h => ⟨K_1000000010000001, 6, h, leaf_1000000010000001⟩) (fun h => split_on c_1000000010000000 h (fun h => ⟨K_10000000100000001, 6, h, leaf_10000000100000001⟩) (fun h => split_on c_10000000100000000 h (fun h => ⟨K_100000001000000001, 6, h, leaf_100000001000000001⟩) (fun h => split_on c_100000001000000000 h (fun h => ⟨K_1000000010000000001, 6, h, leaf_1000000010000000001⟩) (fun h => split_on c_1000000010000000000 h (fun h => ⟨K_10000000100000000001, 6, h, leaf_10000000100000000001⟩) (fun h => split_void h leaf_10000000100000000000)))))))))))) (fun h => split_on c_100000000 h (fun h => split_on c_1000000001 h (fun h => ⟨K_10000000011, 6, h, leaf_10000000011⟩) (fun h => split_on c_10000000010 h (fun h => ⟨K_100000000101, 6, h, leaf_100000000101⟩) (fun h => split_on c_100000000100 h (fun h => ⟨K_1000000001001, 6, h, leaf_1000000001001⟩) (fun h => split_on c_1000000001000 h (fun h => ⟨K_10000000010001, 6, h, leaf_10000000010001⟩) (fun h => split_on c_10000000010000 h (fun h => ⟨K_100000000100001, 6, h, leaf_100000000100001⟩) (fun h => split_on c_100000000100000 h (fun h => ⟨K_1000000001000001, 6, h, leaf_1000000001000001⟩) (fun h => split_on c_1000000001000000 h (fun h => ⟨K_10000000010000001, 6, h, leaf_10000000010000001⟩) (fun h => split_on c_10000000010000000 h (fun h => ⟨K_100000000100000001, 6, h, leaf_100000000100000001⟩) (fun h => split_on c_100000000100000000 h (fun h => ⟨K_1000000001000000001, 6, h, leaf_1000000001000000001⟩) (fun h => split_on c_1000000001000000000 h (fun h => ⟨K_10000000010000000001, 6, h, leaf_10000000010000000001⟩) (fun h => split_on c_10000000010000000000 h (fun h => ⟨K_100000000100000000001, 6, h, leaf_100000000100000000001⟩) (fun h => split_void h leaf_100000000100000000000)))))))))))) (fun h => split_on c_1000000000 h (fun h => split_on c_10000000001 h (fun h => ⟨K_100000000011, 6, h, leaf_100000000011⟩) (fun h => split_on c_100000000010 h (fun h => ⟨K_1000000000101, 6, h, leaf_1000000000101⟩) (fun h => split_on c_1000000000100 h (fun h => ⟨K_10000000001001, 6, h, leaf_10000000001001⟩) (fun h => split_on c_10000000001000 h (fun h => ⟨K_100000000010001, 6, h, leaf_100000000010001⟩) (fun h => split_on c_100000000010000 h (fun h => ⟨K_1000000000100001, 6, h, leaf_1000000000100001⟩) (fun h => split_on c_1000000000100000 h (fun h => ⟨K_10000000001000001, 6, h, leaf_10000000001000001⟩) (fun h => split_on c_10000000001000000 h (fun h => ⟨K_100000000010000001, 6, h, leaf_100000000010000001⟩) (fun h => split_on c_100000000010000000 h (fun h => ⟨K_1000000000100000001, 6, h, leaf_1000000000100000001⟩) (fun h => split_on c_1000000000100000000 h (fun h => ⟨K_10000000001000000001, 6, h, leaf_10000000001000000001⟩) (fun h => split_on c_10000000001000000000 h (fun h => ⟨K_100000000010000000001, 6, h, leaf_100000000010000000001⟩) (fun h => split_on c_100000000010000000000 h (fun h => ⟨K_1000000000100000000001, 6, h, leaf_1000000000100000000001⟩) (fun h => split_void h leaf_1000000000100000000000)))))))))))) (fun h => split_void h leaf_10000000000))))))))))) (fun h => split_on c_0 h (fun h => split_on c_01 h (fun h => split_void h leaf_011) (fun h => split_on c_010 h (fun h => split_on c_0101 h (fun h => split_void h leaf_01011) (fun h => split_void h leaf_01010)) (fun h => split_on c_0100 h (fun h => split_on c_01001 h (fun h => split_void h leaf_010011) (fun h => ⟨K_010010, 6, h, leaf_010010⟩)) (fun h => split_on c_01000 h (fun h => split_on c_010001 h (fun h => split_void h leaf_0100011) (fun h => split_void h leaf_0100010)) (fun h => split_on c_010000 h (fun h => split_on c_0100001 h (fun h => split_void h leaf_01000011) (fun h => split_void h leaf_01000010)) (fun h => split_on c_0100000 h (fun h => split_on c_01000001 h (fun h => split_void h leaf_010000011) (fun h => split_void h leaf_010000010)) (fun h => split_on c_01000000 h (fun h => split_on c_010000001 h (fun h => split_void h leaf_0100000011) (fun h => split_void h leaf_0100000010)) (fun h => ⟨K_010000000, 6, h, leaf_010000000⟩)))))))) (fun h => split_on c_00 h (fun h => split_on c_001 h (fun h => split_void h leaf_0011) (fun h => split_on c_0010 h (fun h => split_on c_00101 h (fun h => split_void h leaf_001011) (fun h => split_void h leaf_001010)) (fun h => split_on c_00100 h (fun h => split_on c_001001 h (fun h => split_void h leaf_0010011) (fun h => split_void h leaf_0010010)) (fun h => split_on c_001000 h (fun h => split_on c_0010001 h (fun h => split_void h leaf_00100011) (fun h => ⟨K_00100010, 6, h, leaf_00100010⟩)) (fun h => split_on c_0010000 h (fun h => split_on c_00100001 h (fun h => split_void h leaf_001000011) (fun h => split_void h leaf_001000010)) (fun h => split_on c_00100000 h (fun h => split_on c_001000001 h (fun h => split_void h leaf_0010000011) (fun h => split_void h leaf_0010000010)) (fun h => split_on c_001000000 h (fun h => split_on c_0010000001 h (fun h => split_void h leaf_00100000011) (fun h => split_void h leaf_00100000010)) (fun h => ⟨K_0010000000, 6, h, leaf_0010000000⟩)))))))) (fun h => split_on c_000 h (fun h => split_on c_0001 h (fun h => split_void h leaf_00011) (fun h => split_on c_00010 h (fun h => split_on c_000101 h (fun h => split_void h leaf_0001011) (fun h => split_void h leaf_0001010)) (fun h => split_on c_000100 h (fun h => split_on c_0001001 h (fun h => split_void h leaf_00010011) (fun h => split_void h leaf_00010010)) (fun h => split_on c_0001000 h (fun h => split_on c_00010001 h (fun h => split_void h leaf_000100011) (fun h => split_void h leaf_000100010)) (fun h => split_on c_00010000 h (fun h => split_on c_000100001 h (fun h => split_void h leaf_0001000011) (fun h => ⟨K_0001000010, 6, h, leaf_0001000010⟩)) (fun h => split_on c_000100000 h (fun h => split_on c_0001000001 h (fun h => split_void h leaf_00010000011) (fun h => split_void h leaf_00010000010)) (fun h => split_on c_0001000000 h (fun h => split_on c_00010000001 h (fun h => split_void h leaf_000100000011) (fun h => split_void h leaf_000100000010)) (fun h => ⟨K_00010000000, 6, h, leaf_00010000000⟩)))))))) (fun h => split_on c_0000 h (fun h => split_on c_00001 h (fun h => split_void h leaf_000011) (fun h => split_on c_000010 h (fun h => split_on c_0000101 h (fun h => split_void h leaf_00001011) (fun h => split_void h leaf_00001010)) (fun h => split_on c_0000100 h (fun h => split_on c_00001001 h (fun h => split_void h leaf_000010011) (fun h => split_void h leaf_000010010)) (fun h => split_on c_00001000 h (fun h => split_on c_000010001 h (fun h => split_void h leaf_0000100011) (fun h => split_void h leaf_0000100010)) (fun h => split_on c_000010000 h (fun h => split_on c_0000100001 h (fun h => split_void h leaf_00001000011) (fun h => split_void h leaf_00001000010)) (fun h => split_on c_0000100000 h (fun h => split_on c_00001000001 h (fun h => split_void h leaf_000010000011) (fun h => ⟨K_000010000010, 6, h, leaf_000010000010⟩)) (fun h => split_on c_00001000000 h (fun h => split_on c_000010000001 h (fun h => split_void h leaf_0000100000011) (fun h => split_void h leaf_0000100000010)) (fun h => ⟨K_000010000000, 6, h, leaf_000010000000⟩)))))))) (fun h => split_on c_00000 h (fun h => split_on c_000001 h (fun h => split_void h leaf_0000011) (fun h => split_on c_0000010 h (fun h => split_on c_00000101 h (fun h => split_void h leaf_000001011) (fun h => split_void h leaf_000001010)) (fun h => split_on c_00000100 h (fun h => split_on c_000001001 h (fun h => split_void h leaf_0000010011) (fun h => split_void h leaf_0000010010)) (fun h => split_on c_000001000 h (fun h => split_on c_0000010001 h (fun h => split_void h leaf_00000100011) (fun h => split_void h leaf_00000100010)) (fun h => split_on c_0000010000 h (fun h => split_on c_00000100001 h (fun h => split_void h leaf_000001000011) (fun h => split_void h leaf_000001000010)) (fun h => split_on c_00000100000 h (fun h => split_on c_000001000001 h (fun h => split_void h leaf_0000010000011) (fun h => split_void h leaf_0000010000010)) (fun h => split_on c_000001000000 h (fun h => split_on c_0000010000001 h (fun h => split_void h leaf_00000100000011) (fun h => ⟨K_00000100000010, 6, h, leaf_00000100000010⟩)) (fun h => ⟨K_0000010000000, 6, h, leaf_0000010000000⟩)))))))) (fun h => split_on c_000000 h (fun h => split_on c_0000001 h (fun h => split_void h leaf_00000011) (fun h => split_on c_00000010 h (fun h => split_on c_000000101 h (fun h => split_void h leaf_0000001011) (fun h => split_void h leaf_0000001010)) (fun h => split_on c_000000100 h (fun h => split_on c_0000001001 h (fun h => split_void h leaf_00000010011) (fun h => split_void h leaf_00000010010)) (fun h => split_on c_0000001000 h (fun h => split_on c_00000010001 h (fun h => split_void h leaf_000000100011) (fun h => split_void h leaf_000000100010)) (fun h => split_on c_00000010000 h (fun h => split_on c_000000100001 h (fun h => split_void h leaf_0000001000011) (fun h => split_void h leaf_0000001000010)) (fun h => split_on c_000000100000 h (fun h => split_on c_0000001000001 h (fun h => split_void h leaf_00000010000011) (fun h => split_void h leaf_00000010000010)) (fun h => split_on c_0000001000000 h (fun h => split_on c_00000010000001 h (fun h => split_void h leaf_000000100000011) (fun h => split_void h leaf_000000100000010)) (fun h => ⟨K_00000010000000, 6, h, leaf_00000010000000⟩)))))))) (fun h => split_on c_0000000 h (fun h => split_on c_00000001 h (fun h => split_void h leaf_000000011) (fun h => ⟨K_000000010, 6, h, leaf_000000010⟩)) (fun h => split_on c_00000000 h (fun h => split_on c_000000001 h (fun h => split_void h leaf_0000000011) (fun h => split_void h leaf_0000000010)) (fun h => split_on c_000000000 h (fun h => split_on c_0000000001 h (fun h => split_void h leaf_00000000011) (fun h => split_void h leaf_00000000010)) (fun h => split_on c_0000000000 h (fun h => split_on c_00000000001 h (fun h => split_void h leaf_000000000011) (fun h => ⟨K_000000000010, 6, h, leaf_000000000010⟩)) (fun h => split_on c_00000000000 h (fun h => split_on c_000000000001 h (fun h => split_void h leaf_0000000000011) (fun h => ⟨K_0000000000010, 6, h, leaf_0000000000010⟩)) (fun h => split_on c_000000000000 h (fun h => split_on c_0000000000001 h (fun h => split_void h leaf_00000000000011) (fun h => ⟨K_00000000000010, 6, h, leaf_00000000000010⟩)) (fun h => ⟨K_0000000000000, 6, h, leaf_0000000000000⟩)))))))))))))

def zeros : Env := ⟨fun _ => 0, fun _ => false, fun _ _ => 0, fun _ _ => false, fun _ => .bool false⟩
set_option maxRecDepth 100000 in
theorem lifted3 (os : Os) (started : os.Started) (H : Type) (enc : TypeId × Value → H) :
    ReturnsInHanded {} Try.checked os 3 .any (Rows.bankLastSpec.pre6 enc Try.prog Try.f3 Rows.bankLastRow.domain false) (Rows.bankLastSpec.post enc Try.prog Try.f3 false true false false) := by
  refine returnsInHanded_of_change (C := Try.checked) own started (by kernel_rfl) Try.func3
    (ChangeSpec.witness6 (enc := enc) (C := Try.checked) false ⟨#[], (ss3.map (SV.den zeros fun _ => 0)).toArray, []⟩ 8 (by kernel_rfl) (by kernel_rfl) (by kernel_rfl) (by kernel_rfl)) ?_
  intro W base args ds gs before hval0 hW _ _
  have hval : ∀ (j : Nat) t v, Try.f3.params[j]? = some t → args[j]? = some v → Value.okWide Try.prog W .any base t v := hval0
  have hW' := hW
  obtain ⟨p, q, hA0, hV, rfl, _, _⟩ := hW
  have hA : DataW.TrodAll enc Try.prog W 0 (fun _ => true) true Try.f3.params.toList args.toList ds p := hA0
  obtain ⟨rfl, rfl⟩ := trodVars_none hV
  have hA1 := hA
  rw [Try.params3] at hA1
  obtain ⟨v0, v1, d0, d1, p0, p1, e1, rfl, _, _, _⟩ := trodAll_two hA1
  refine (flat_plan (r := .any) (base := base) mixed sok10 args3 plan3 (w := W) (by rw [e1]; rfl) (fun j t v ht hv => hval j t v (by simpa using ht) hv)).mono fun e W' ⟨⟨v, he, hv⟩, hb⟩ => ?_
  subst hv
  subst he
  exact ⟨_, rfl, law_post (tb := 4) laid rfl (by rw [Try.params3]; intro t ht; simp at ht; first | (subst ht; exact ⟨by kernel_rfl, of_decide_eq_true (by kernel_rfl)⟩) | (rcases ht with rfl | rfl <;> exact ⟨by kernel_rfl, of_decide_eq_true (by kernel_rfl)⟩) | (rcases ht with rfl | rfl | rfl <;> exact ⟨by kernel_rfl, of_decide_eq_true (by kernel_rfl)⟩)) rfl Try.underlying4 hW' hA hb ⟨rfl, rfl, rfl⟩⟩

theorem bankLast_holds : Rows.BankLastSaid :=
  OpenClaim.holds_of_wide 3 Try.f3 rfl rfl rfl rfl rfl rfl rfl ⟨rfl, rfl, rfl, rfl, rfl⟩ rfl rfl rfl rfl rfl (by kernel_rfl) Try.func3 (by kernel_rfl)
    (of_decide_eq_true (by kernel_rfl)) (by unfold Func.isWrapper; first | (rw [if_pos (by decide +kernel)]; kernel_rfl) | (rw [if_neg (by decide +kernel)]; exact ⟨rfl, rfl⟩))
    (fun os started H enc _ => lifted3 os started H enc)
#print axioms bankLast_holds
end Go.Proofs.Ytnakkaaobhpcjaa
