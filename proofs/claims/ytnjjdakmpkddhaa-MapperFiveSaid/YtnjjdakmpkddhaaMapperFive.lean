/- For every input MapperFive answers true. -/
import Derived.Test.YtnjjdakmpkddhaaRows
import Derived.Test.YtnjjdakmpkddhaaSx21
namespace Go.Proofs.Ytnjjdakmpkddhaa
open Go.ChangeShapes Go.WideShapes Go.ChangeAt Go.RowKit Go.Sx

theorem own : ownKnob Try.prog.godebug = none := by kernel_rfl
theorem laid : laidOutB Try.prog = true := by kernel_rfl
theorem mixed : Try.prog.follows .mixedOrders = true := by kernel_rfl

def v26 : ST := .v (.c (.cb (.or (.and (.cmp .geq (.iv 0) (.lit (.ofNat 0))) (.cmp .leq (.iv 0) (.lit (.ofNat 4)))) (.cmp .eql (.iv 0) (.lit (.ofNat 7))))))
def ss26 : List SV := [.c (.ci .i64 (.iv 0))]
def ks26 : List LK := [.i .i64]
theorem args26 : argTs Try.prog Try.f26.params.toList 0 = some (ss26, ks26) := by kernel_rfl
theorem tree26 : tree Try.prog 12 (sumsIn []) 300 26 ss26 bare 0 ⟨ks26.map LK.rg, []⟩ = .leaf v26 := by kernel_rfl
def sums26 : List Sm := ⟨26, ss26, ks26, v26⟩ :: []
theorem sok26 : SumsOk Try.prog sums26 := sums_cons mixed sums_nil args26 tree26 (by kernel_rfl)
def x21_9 : X := .not (.or (.and (.cmp .geq (.iv 0) (.lit (.ofNat 0))) (.cmp .leq (.iv 0) (.lit (.ofNat 4)))) (.cmp .eql (.iv 0) (.lit (.ofNat 7))))
def x21_12 : X := .bin .quo .i64 (.iv 2) (.lit (.ofNat 16384))
def x21_14 : X := .cmp .eql x21_12 (.lit (.ofNat 1))
def x21_15 : X := .not x21_14
def x21_17 : X := .cmp .eql x21_12 (.lit (.ofNat 2))
def x21_19 : X := .not x21_17
def x21_20 : X := .cmp .eql x21_12 (.lit (.ofNat 4))
def x21_23 : X := .not x21_20
def x21_25 : X := .cmp .eql x21_12 (.lit (.ofNat 8))
def x21_30 : X := .not x21_25
def x21_32 : X := .cmp .eql x21_12 (.lit (.ofNat 16))
def x21_53 : X := .cmp .geq (.ite x21_14 (.lit (.ofNat 0)) (.ite (.and x21_15 x21_17) (.lit (.ofNat 1)) (.ite (.and x21_15 (.and x21_19 x21_20)) (.lit (.ofNat 2)) (.ite (.and x21_15 (.and x21_19 (.and x21_23 x21_25))) (.lit (.ofNat 3)) (.ite (.and x21_15 (.and x21_19 (.and x21_23 (.and x21_30 x21_32)))) (.lit (.ofNat 4)) (.ite (.and x21_15 (.and x21_19 (.and x21_23 (.and x21_30 (.and (.not x21_32) (.cmp .eql x21_12 (.lit (.ofNat 32)))))))) (.lit (.ofNat 5)) (.lit (.negSucc 0)))))))) (.lit (.ofNat 0))
def x21_60 : X := .bin .quo .i64 (.iv 3) (.lit (.ofNat 8192))
def x21_61 : X := .cmp .eql x21_60 (.lit (.ofNat 1))
def x21_62 : X := .not x21_61
def x21_63 : X := .cmp .eql x21_60 (.lit (.ofNat 2))
def x21_65 : X := .not x21_63
def x21_66 : X := .cmp .eql x21_60 (.lit (.ofNat 4))
def x21_69 : X := .not x21_66
def x21_70 : X := .cmp .eql x21_60 (.lit (.ofNat 8))
def x21_74 : X := .not x21_70
def x21_75 : X := .cmp .eql x21_60 (.lit (.ofNat 16))
def x21_93 : X := .cmp .geq (.ite x21_61 (.lit (.ofNat 0)) (.ite (.and x21_62 x21_63) (.lit (.ofNat 1)) (.ite (.and x21_62 (.and x21_65 x21_66)) (.lit (.ofNat 2)) (.ite (.and x21_62 (.and x21_65 (.and x21_69 x21_70))) (.lit (.ofNat 3)) (.ite (.and x21_62 (.and x21_65 (.and x21_69 (.and x21_74 x21_75)))) (.lit (.ofNat 4)) (.ite (.and x21_62 (.and x21_65 (.and x21_69 (.and x21_74 (.and (.not x21_75) (.cmp .eql x21_60 (.lit (.ofNat 32)))))))) (.lit (.ofNat 5)) (.lit (.negSucc 0)))))))) (.lit (.ofNat 0))
def x21_102 : X := .or (.or (.not (.and x21_53 (.cmp .eql (.bin .rem .i64 (.iv 2) (.lit (.ofNat 16384))) (.lit (.ofNat 0))))) (.not (.and x21_93 (.cmp .eql (.bin .rem .i64 (.iv 3) (.lit (.ofNat 8192))) (.lit (.ofNat 0)))))) (.and (.bv 8) (.cmp .neq (.iv 3) (.lit (.ofNat 8192))))
def v21 : ST := .v (.c (.ci .i64 (.ite (.or x21_9 (.or x21_102 (.or (.or (.cmp .lss (.iv 1) (.lit (.ofNat 0))) (.cmp .gtr (.iv 1) (.lit (.ofNat 15)))) (.and (.not (.bv 7)) (.cmp .neq (.iv 1) (.lit (.ofNat 0))))))) (.ite x21_9 (.lit (.ofNat 6)) (.ite x21_102 (.lit (.ofNat 5)) (.lit (.ofNat 1)))) (.lit (.ofNat 0)))))
def ss21 : List SV := [.agg [.ci .i64 (.iv 0), .ci .i64 (.iv 1), .ci .i64 (.iv 2), .ci .i64 (.iv 3), .cb (.bv 4), .cb (.bv 5), .cb (.bv 6), .cb (.bv 7), .cb (.bv 8)]]
def ks21 : List LK := [.i .i64, .i .i64, .i .i64, .i .i64, .b, .b, .b, .b, .b]
theorem args21 : argTs Try.prog Try.f21.params.toList 0 = some (ss21, ks21) := by kernel_rfl
theorem tree21 : tree Try.prog 12 (sumsIn sums26) 300 21 ss21 bare 0 ⟨ks21.map LK.rg, []⟩ = .leaf v21 := by kernel_rfl
def sums21 : List Sm := ⟨21, ss21, ks21, v21⟩ :: sums26
theorem sok21 : SumsOk Try.prog sums21 := sums_cons mixed sok26 args21 tree21 (by kernel_rfl)
def x9_9 : X := .not (.or (.and (.cmp .geq (.iv 0) (.lit (.ofNat 0))) (.cmp .leq (.iv 0) (.lit (.ofNat 4)))) (.cmp .eql (.iv 0) (.lit (.ofNat 7))))
def x9_21 : X := .ite (.cmp .gtr (.iv 5) (.iv 3)) (.iv 5) (.iv 3)
def x9_23 : X := .ite (.cmp .gtr (.iv 6) x9_21) (.iv 6) x9_21
def x9_25 : X := .ite (.cmp .gtr (.iv 7) x9_23) (.iv 7) x9_23
def v9 : ST := .v (.c (.ci .i64 (.ite (.or (.or (.or (.or (.cmp .neq (.ite x9_9 (.ite x9_9 (.lit (.ofNat 6)) (.lit (.ofNat 1))) (.lit (.ofNat 0))) (.lit (.ofNat 0))) (.cmp .geq (.ite (.cmp .gtr (.iv 8) x9_25) (.iv 8) x9_25) (.lit (.ofNat 32)))) (.cmp .geq (.iv 4) (.lit (.ofNat 5)))) (.cmp .lss (.iv 26) (.lit (.ofNat 0)))) (.cmp .gtr (.iv 26) (.lit (.ofNat 100)))) (.lit (.ofNat 1)) (.lit (.ofNat 0)))))
def ss9 : List SV := [.agg [.ci .i64 (.iv 0), .cb (.bv 1), .cb (.bv 2), .ci .u8 (.iv 3), .ci .u8 (.iv 4), .ci .u8 (.iv 5), .ci .u8 (.iv 6), .ci .u8 (.iv 7), .ci .u8 (.iv 8), .ci .i64 (.iv 9), .ci .u8 (.iv 10), .ci .u8 (.iv 11), .ci .u8 (.iv 12), .ci .u8 (.iv 13), .ci .u8 (.iv 14), .ci .u8 (.iv 15), .ci .u8 (.iv 16), .ci .u8 (.iv 17), .ci .u8 (.iv 18), .ci .u8 (.iv 19), .ci .u8 (.iv 20), .ci .u8 (.iv 21), .ci .u8 (.iv 22), .cb (.bv 23), .cb (.bv 24), .cb (.bv 25), .ci .i64 (.iv 26)]]
def ks9 : List LK := [.i .i64, .b, .b, .i .u8, .i .u8, .i .u8, .i .u8, .i .u8, .i .u8, .i .i64, .i .u8, .i .u8, .i .u8, .i .u8, .i .u8, .i .u8, .i .u8, .i .u8, .i .u8, .i .u8, .i .u8, .i .u8, .i .u8, .b, .b, .b, .i .i64]
theorem args9 : argTs Try.prog Try.f9.params.toList 0 = some (ss9, ks9) := by kernel_rfl
theorem tree9 : tree Try.prog 12 (sumsIn sums21) 300 9 ss9 bare 0 ⟨ks9.map LK.rg, []⟩ = .leaf v9 := by kernel_rfl
def sums9 : List Sm := ⟨9, ss9, ks9, v9⟩ :: sums21
theorem sok9 : SumsOk Try.prog sums9 := sums_cons mixed sok21 args9 tree9 (by kernel_rfl)
def x15_9 : X := .not (.or (.and (.cmp .geq (.iv 0) (.lit (.ofNat 0))) (.cmp .leq (.iv 0) (.lit (.ofNat 4)))) (.cmp .eql (.iv 0) (.lit (.ofNat 7))))
def x15_12 : X := .bin .quo .i64 (.iv 2) (.lit (.ofNat 16384))
def x15_14 : X := .cmp .eql x15_12 (.lit (.ofNat 1))
def x15_15 : X := .not x15_14
def x15_17 : X := .cmp .eql x15_12 (.lit (.ofNat 2))
def x15_19 : X := .not x15_17
def x15_20 : X := .cmp .eql x15_12 (.lit (.ofNat 4))
def x15_23 : X := .not x15_20
def x15_25 : X := .cmp .eql x15_12 (.lit (.ofNat 8))
def x15_30 : X := .not x15_25
def x15_32 : X := .cmp .eql x15_12 (.lit (.ofNat 16))
def x15_53 : X := .cmp .geq (.ite x15_14 (.lit (.ofNat 0)) (.ite (.and x15_15 x15_17) (.lit (.ofNat 1)) (.ite (.and x15_15 (.and x15_19 x15_20)) (.lit (.ofNat 2)) (.ite (.and x15_15 (.and x15_19 (.and x15_23 x15_25))) (.lit (.ofNat 3)) (.ite (.and x15_15 (.and x15_19 (.and x15_23 (.and x15_30 x15_32)))) (.lit (.ofNat 4)) (.ite (.and x15_15 (.and x15_19 (.and x15_23 (.and x15_30 (.and (.not x15_32) (.cmp .eql x15_12 (.lit (.ofNat 32)))))))) (.lit (.ofNat 5)) (.lit (.negSucc 0)))))))) (.lit (.ofNat 0))
def x15_60 : X := .bin .quo .i64 (.iv 3) (.lit (.ofNat 8192))
def x15_61 : X := .cmp .eql x15_60 (.lit (.ofNat 1))
def x15_62 : X := .not x15_61
def x15_63 : X := .cmp .eql x15_60 (.lit (.ofNat 2))
def x15_65 : X := .not x15_63
def x15_66 : X := .cmp .eql x15_60 (.lit (.ofNat 4))
def x15_69 : X := .not x15_66
def x15_70 : X := .cmp .eql x15_60 (.lit (.ofNat 8))
def x15_74 : X := .not x15_70
def x15_75 : X := .cmp .eql x15_60 (.lit (.ofNat 16))
def x15_93 : X := .cmp .geq (.ite x15_61 (.lit (.ofNat 0)) (.ite (.and x15_62 x15_63) (.lit (.ofNat 1)) (.ite (.and x15_62 (.and x15_65 x15_66)) (.lit (.ofNat 2)) (.ite (.and x15_62 (.and x15_65 (.and x15_69 x15_70))) (.lit (.ofNat 3)) (.ite (.and x15_62 (.and x15_65 (.and x15_69 (.and x15_74 x15_75)))) (.lit (.ofNat 4)) (.ite (.and x15_62 (.and x15_65 (.and x15_69 (.and x15_74 (.and (.not x15_75) (.cmp .eql x15_60 (.lit (.ofNat 32)))))))) (.lit (.ofNat 5)) (.lit (.negSucc 0)))))))) (.lit (.ofNat 0))
def x15_102 : X := .or (.or (.not (.and x15_53 (.cmp .eql (.bin .rem .i64 (.iv 2) (.lit (.ofNat 16384))) (.lit (.ofNat 0))))) (.not (.and x15_93 (.cmp .eql (.bin .rem .i64 (.iv 3) (.lit (.ofNat 8192))) (.lit (.ofNat 0)))))) (.and (.bv 8) (.cmp .neq (.iv 3) (.lit (.ofNat 8192))))
def x15_118 : X := .ite (.or x15_9 (.or x15_102 (.or (.or (.cmp .lss (.iv 1) (.lit (.ofNat 0))) (.cmp .gtr (.iv 1) (.lit (.ofNat 15)))) (.and (.not (.bv 7)) (.cmp .neq (.iv 1) (.lit (.ofNat 0))))))) (.ite x15_9 (.lit (.ofNat 6)) (.ite x15_102 (.lit (.ofNat 5)) (.lit (.ofNat 1)))) (.lit (.ofNat 0))
def x15_119 : X := .cmp .neq x15_118 (.lit (.ofNat 0))
def x15_121 : X := .not x15_119
def v15 : ST := .tup [.agg [.ci .i64 (.ite x15_119 (.lit (.ofNat 0)) (.iv 0)), .cb (.and x15_121 (.bv 6)), .cb (.and x15_121 (.bv 5)), .ci .u8 (.lit (.ofNat 0)), .ci .u8 (.lit (.ofNat 0)), .ci .u8 (.ite x15_119 (.lit (.ofNat 0)) (.lit (.ofNat 12))), .ci .u8 (.lit (.ofNat 0)), .ci .u8 (.lit (.ofNat 0)), .ci .u8 (.lit (.ofNat 0)), .ci .i64 (.ite x15_119 (.lit (.ofNat 0)) (.lit (.negSucc 1))), .ci .u8 (.lit (.ofNat 0)), .ci .u8 (.lit (.ofNat 0)), .ci .u8 (.lit (.ofNat 0)), .ci .u8 (.lit (.ofNat 0)), .ci .u8 (.lit (.ofNat 0)), .ci .u8 (.lit (.ofNat 0)), .ci .u8 (.lit (.ofNat 0)), .ci .u8 (.lit (.ofNat 0)), .ci .u8 (.lit (.ofNat 0)), .ci .u8 (.lit (.ofNat 0)), .ci .u8 (.lit (.ofNat 0)), .ci .u8 (.lit (.ofNat 0)), .ci .u8 (.lit (.ofNat 0)), .cb (.bl false), .cb (.bl false), .cb (.bl false), .ci .i64 (.lit (.ofNat 0))], .c (.ci .i64 (.ite x15_119 x15_118 (.lit (.ofNat 0))))]
def ss15 : List SV := [.agg [.ci .i64 (.iv 0), .ci .i64 (.iv 1), .ci .i64 (.iv 2), .ci .i64 (.iv 3), .cb (.bv 4), .cb (.bv 5), .cb (.bv 6), .cb (.bv 7), .cb (.bv 8)]]
def ks15 : List LK := [.i .i64, .i .i64, .i .i64, .i .i64, .b, .b, .b, .b, .b]
theorem args15 : argTs Try.prog Try.f15.params.toList 0 = some (ss15, ks15) := by kernel_rfl
theorem tree15 : tree Try.prog 12 (sumsIn sums9) 300 15 ss15 bare 0 ⟨ks15.map LK.rg, []⟩ = .leaf v15 := by kernel_rfl
def sums15 : List Sm := ⟨15, ss15, ks15, v15⟩ :: sums9
theorem sok15 : SumsOk Try.prog sums15 := sums_cons mixed sok9 args15 tree15 (by kernel_rfl)
def v13 : ST := .v (.agg [.ci .i64 (.iv 0), .cb (.bl false), .cb (.bl false), .ci .u8 (.lit (.ofNat 0)), .ci .u8 (.lit (.ofNat 0)), .ci .u8 (.lit (.ofNat 12)), .ci .u8 (.lit (.ofNat 0)), .ci .u8 (.lit (.ofNat 0)), .ci .u8 (.lit (.ofNat 0)), .ci .i64 (.lit (.negSucc 1)), .ci .u8 (.lit (.ofNat 0)), .ci .u8 (.lit (.ofNat 0)), .ci .u8 (.lit (.ofNat 0)), .ci .u8 (.lit (.ofNat 0)), .ci .u8 (.lit (.ofNat 0)), .ci .u8 (.lit (.ofNat 0)), .ci .u8 (.lit (.ofNat 0)), .ci .u8 (.lit (.ofNat 0)), .ci .u8 (.lit (.ofNat 0)), .ci .u8 (.lit (.ofNat 0)), .ci .u8 (.lit (.ofNat 0)), .ci .u8 (.lit (.ofNat 0)), .ci .u8 (.lit (.ofNat 0)), .cb (.bl false), .cb (.bl false), .cb (.bl false), .ci .i64 (.lit (.ofNat 0))])
def ss13 : List SV := [.c (.ci .i64 (.iv 0))]
def ks13 : List LK := [.i .i64]
theorem args13 : argTs Try.prog Try.f13.params.toList 0 = some (ss13, ks13) := by kernel_rfl
theorem tree13 : tree Try.prog 12 (sumsIn sums15) 300 13 ss13 bare 0 ⟨ks13.map LK.rg, []⟩ = .leaf v13 := by kernel_rfl
def sums13 : List Sm := ⟨13, ss13, ks13, v13⟩ :: sums15
theorem sok13 : SumsOk Try.prog sums13 := sums_cons mixed sok15 args13 tree13 (by kernel_rfl)
def v10 : ST := .v (.c (.cb (.bl true)))
def ss10 : List SV := []
def ks10 : List LK := []
theorem args10 : argTs Try.prog Try.f10.params.toList 0 = some (ss10, ks10) := by kernel_rfl
theorem tree10 : tree Try.prog 12 (sumsIn sums13) 300 10 ss10 bare 0 ⟨ks10.map LK.rg, []⟩ = .leaf v10 := by kernel_rfl
def sums10 : List Sm := ⟨10, ss10, ks10, v10⟩ :: sums13
theorem sok10 : SumsOk Try.prog sums10 := sums_cons mixed sok13 args10 tree10 (by kernel_rfl)
def ss3 : List SV := [.agg [.ci .i64 (.iv 0), .ci .i64 (.iv 1), .ci .i64 (.iv 2), .ci .i64 (.iv 3), .cb (.bv 4), .cb (.bv 5), .cb (.bv 6), .cb (.bv 7), .cb (.bv 8), .ci .i64 (.iv 9), .cb (.bv 10), .cb (.bv 11), .ci .u8 (.iv 12), .ci .u8 (.iv 13), .ci .u8 (.iv 14), .ci .u8 (.iv 15), .ci .u8 (.iv 16), .ci .u8 (.iv 17), .ci .i64 (.iv 18), .ci .u8 (.iv 19), .ci .u8 (.iv 20), .ci .u8 (.iv 21), .ci .u8 (.iv 22), .ci .u8 (.iv 23), .ci .u8 (.iv 24), .ci .u8 (.iv 25), .ci .u8 (.iv 26), .ci .u8 (.iv 27), .ci .u8 (.iv 28), .ci .u8 (.iv 29), .ci .u8 (.iv 30), .ci .u8 (.iv 31), .cb (.bv 32), .cb (.bv 33), .cb (.bv 34), .ci .i64 (.iv 35), .ci .u16 (.iv 36), .ci .u8 (.iv 37), .ci .i64 (.iv 38), .cb (.bv 39)]]
def ks3 : List LK := [.i .i64, .i .i64, .i .i64, .i .i64, .b, .b, .b, .b, .b, .i .i64, .b, .b, .i .u8, .i .u8, .i .u8, .i .u8, .i .u8, .i .u8, .i .i64, .i .u8, .i .u8, .i .u8, .i .u8, .i .u8, .i .u8, .i .u8, .i .u8, .i .u8, .i .u8, .i .u8, .i .u8, .i .u8, .b, .b, .b, .i .i64, .i .u16, .i .u8, .i .i64, .b]
theorem args3 : argTs Try.prog Try.f3.params.toList 0 = some (ss3, ks3) := by kernel_rfl
def T (K : Known) : Prop := (tree Try.prog 0 (sumsIn sums10) 300 3 ss3 bare 6 K).prove 300 1000 K = true
def V (K : Known) : Prop := X.prove 20 60 K (.bl false) = true
def c_0 : X := .cmp .lss (.iv 35) (.lit (.ofNat 0))
def c_1 : X := .cmp .gtr (.iv 35) (.lit (.ofNat 100))
def c_2 : X := .cmp .geq (.iv 13) (.lit (.ofNat 5))
def c_3 : X := .cmp .geq (.ite (.cmp .gtr (.iv 17) (.ite (.cmp .gtr (.iv 16) (.ite (.cmp .gtr (.iv 15) (.ite (.cmp .gtr (.iv 14) (.iv 12)) (.iv 14) (.iv 12))) (.iv 15) (.ite (.cmp .gtr (.iv 14) (.iv 12)) (.iv 14) (.iv 12)))) (.iv 16) (.ite (.cmp .gtr (.iv 15) (.ite (.cmp .gtr (.iv 14) (.iv 12)) (.iv 14) (.iv 12))) (.iv 15) (.ite (.cmp .gtr (.iv 14) (.iv 12)) (.iv 14) (.iv 12))))) (.iv 17) (.ite (.cmp .gtr (.iv 16) (.ite (.cmp .gtr (.iv 15) (.ite (.cmp .gtr (.iv 14) (.iv 12)) (.iv 14) (.iv 12))) (.iv 15) (.ite (.cmp .gtr (.iv 14) (.iv 12)) (.iv 14) (.iv 12)))) (.iv 16) (.ite (.cmp .gtr (.iv 15) (.ite (.cmp .gtr (.iv 14) (.iv 12)) (.iv 14) (.iv 12))) (.iv 15) (.ite (.cmp .gtr (.iv 14) (.iv 12)) (.iv 14) (.iv 12))))) (.lit (.ofNat 32))
def c_4 : X := .cmp .geq (.iv 12) (.lit (.ofNat 32))
def c_5 : X := .cmp .geq (.iv 14) (.lit (.ofNat 32))
def c_6 : X := .cmp .geq (.iv 15) (.lit (.ofNat 32))
def c_7 : X := .cmp .geq (.iv 16) (.lit (.ofNat 32))
def c_8 : X := .cmp .geq (.iv 17) (.lit (.ofNat 32))
def c_9 : X := .cmp .neq (.bin .and .u64 (.iv 36) (.lit (.ofNat 8192))) (.lit (.ofNat 0))
def c_10 : X := .cmp .neq (.bin .and .u64 (.iv 36) (.lit (.ofNat 16384))) (.lit (.ofNat 0))
def K_0 : Known := ⟨ks3.map LK.rg, []⟩
def K_1 : Known := K_0.assume c_0 true
def K_2 : Known := K_0.assume c_0 false
def K_3 : Known := K_2.assume c_1 true
def K_4 : Known := K_2.assume c_1 false
def K_5 : Known := K_4.assume c_2 true
def K_6 : Known := K_4.assume c_2 false
def K_7 : Known := K_6.assume c_3 true
def K_8 : Known := K_6.assume c_3 false
def K_9 : Known := K_8.assume c_4 true
def K_10 : Known := K_8.assume c_4 false
def K_11 : Known := K_10.assume c_5 true
def K_12 : Known := K_10.assume c_5 false
def K_13 : Known := K_12.assume c_6 true
def K_14 : Known := K_12.assume c_6 false
def K_15 : Known := K_14.assume c_7 true
def K_16 : Known := K_14.assume c_7 false
def K_17 : Known := K_16.assume c_8 true
def K_18 : Known := K_16.assume c_8 false
def K_19 : Known := K_18.assume c_9 true
def K_20 : Known := K_19.assume c_10 true
def K_21 : Known := K_19.assume c_10 false
def K_22 : Known := K_18.assume c_9 false
def K_23 : Known := K_22.assume c_10 true
def K_24 : Known := K_22.assume c_10 false
theorem leaf_1 : T K_1 := by unfold T; kernel_rfl
theorem leaf_3 : T K_3 := by unfold T; kernel_rfl
theorem leaf_5 : T K_5 := by unfold T; kernel_rfl
theorem leaf_7 : T K_7 := by unfold T; kernel_rfl
theorem leaf_9 : V K_9 := by unfold V; kernel_rfl
theorem leaf_11 : V K_11 := by unfold V; kernel_rfl
theorem leaf_13 : V K_13 := by unfold V; kernel_rfl
theorem leaf_15 : V K_15 := by unfold V; kernel_rfl
theorem leaf_17 : V K_17 := by unfold V; kernel_rfl
theorem leaf_20 : T K_20 := by unfold T; kernel_rfl
theorem leaf_21 : T K_21 := by unfold T; kernel_rfl
theorem leaf_23 : T K_23 := by unfold T; kernel_rfl
theorem leaf_24 : T K_24 := by unfold T; kernel_rfl
theorem plan3 : ∀ ρ, (⟨ks3.map LK.rg, []⟩ : Known).ok ρ → ∃ K d, K.ok ρ ∧ (tree Try.prog 0 (sumsIn sums10) 300 3 ss3 bare d K).prove 300 1000 K = true := fun _ h => split_on c_0 h (fun (h : K_1.ok _) => ⟨K_1, 6, h, leaf_1⟩) (fun (h : K_2.ok _) => split_on c_1 h (fun (h : K_3.ok _) => ⟨K_3, 6, h, leaf_3⟩) (fun (h : K_4.ok _) => split_on c_2 h (fun (h : K_5.ok _) => ⟨K_5, 6, h, leaf_5⟩) (fun (h : K_6.ok _) => split_on c_3 h (fun (h : K_7.ok _) => ⟨K_7, 6, h, leaf_7⟩) (fun (h : K_8.ok _) => split_on c_4 h (fun (h : K_9.ok _) => split_void (big := 20) (n := 60) h leaf_9) (fun (h : K_10.ok _) => split_on c_5 h (fun (h : K_11.ok _) => split_void (big := 20) (n := 60) h leaf_11) (fun (h : K_12.ok _) => split_on c_6 h (fun (h : K_13.ok _) => split_void (big := 20) (n := 60) h leaf_13) (fun (h : K_14.ok _) => split_on c_7 h (fun (h : K_15.ok _) => split_void (big := 20) (n := 60) h leaf_15) (fun (h : K_16.ok _) => split_on c_8 h (fun (h : K_17.ok _) => split_void (big := 20) (n := 60) h leaf_17) (fun (h : K_18.ok _) => split_on c_9 h (fun (h : K_19.ok _) => split_on c_10 h (fun (h : K_20.ok _) => ⟨K_20, 6, h, leaf_20⟩) (fun (h : K_21.ok _) => ⟨K_21, 6, h, leaf_21⟩)) (fun (h : K_22.ok _) => split_on c_10 h (fun (h : K_23.ok _) => ⟨K_23, 6, h, leaf_23⟩) (fun (h : K_24.ok _) => ⟨K_24, 6, h, leaf_24⟩)))))))))))

def zeros : Env := ⟨fun _ => 0, fun _ => false, fun _ _ => 0, fun _ _ => false, fun _ => .bool false⟩
set_option maxRecDepth 100000 in
theorem lifted3 (os : Os) (started : os.Started) (H : Type) (enc : TypeId × Value → H) :
    ReturnsInHanded {} Try.checked os 3 .any (Rows.mapperFiveSpec.pre6 enc Try.prog Try.f3 Rows.mapperFiveRow.domain false) (Rows.mapperFiveSpec.post enc Try.prog Try.f3 false true false false) := by
  refine returnsInHanded_of_change (C := Try.checked) own started (by kernel_rfl) Try.func3
    (ChangeSpec.witness6 (enc := enc) (C := Try.checked) false ⟨#[], (ss3.map (SV.den zeros fun _ => 0)).toArray, []⟩ 8 (by kernel_rfl) (by kernel_rfl) (by kernel_rfl) (by kernel_rfl)) ?_
  intro W base args ds gs before hval0 hW _ _
  have hval : ∀ (j : Nat) t v, Try.f3.params[j]? = some t → args[j]? = some v → Value.okWide Try.prog W .any base t v := hval0
  have hW' := hW
  obtain ⟨p, q, hA0, hV, rfl, _, _⟩ := hW
  have hA : DataW.TrodAll enc Try.prog W 0 (fun _ => true) true Try.f3.params.toList args.toList ds p := hA0
  obtain ⟨rfl, rfl⟩ := trodVars_none hV
  have hA1 := hA
  rw [Try.params3] at hA1
  obtain ⟨v0, d0, e1, rfl, _⟩ := trodAll_one hA1
  refine (flat_plan (r := .any) (base := base) mixed sok10 args3 plan3 (w := W) (by rw [e1]; rfl) (fun j t v ht hv => hval j t v (by simpa using ht) hv)).mono fun e W' ⟨⟨v, he, hv⟩, hb⟩ => ?_
  subst hv
  subst he
  exact ⟨_, rfl, law_post (tb := 4) laid rfl (by rw [Try.params3]; intro t ht; simp at ht; first | (subst ht; exact ⟨by kernel_rfl, of_decide_eq_true (by kernel_rfl)⟩) | (rcases ht with rfl | rfl <;> exact ⟨by kernel_rfl, of_decide_eq_true (by kernel_rfl)⟩) | (rcases ht with rfl | rfl | rfl <;> exact ⟨by kernel_rfl, of_decide_eq_true (by kernel_rfl)⟩)) rfl Try.underlying4 hW' hA hb ⟨rfl, rfl, rfl⟩⟩

theorem mapperFive_holds : Rows.MapperFiveSaid :=
  OpenClaim.holds_of_wide 3 Try.f3 rfl rfl rfl rfl rfl rfl rfl ⟨rfl, rfl, rfl, rfl, rfl⟩ rfl rfl rfl rfl rfl (by kernel_rfl) Try.func3 (by kernel_rfl)
    (of_decide_eq_true (by kernel_rfl)) (by unfold Func.isWrapper; first | (rw [if_pos (by decide +kernel)]; kernel_rfl) | (rw [if_neg (by decide +kernel)]; exact ⟨rfl, rfl⟩))
    (fun os started H enc _ => lifted3 os started H enc)
#print axioms mapperFive_holds
end Go.Proofs.Ytnjjdakmpkddhaa
