/- For every input FlowFour answers true. -/
import Derived.Test.YthehpoipeapiaaaRows
import Derived.Test.YthehpoipeapiaaaSx21
namespace Go.Proofs.Ythehpoipeapiaaa
open Go.ChangeShapes Go.WideShapes Go.ChangeAt Go.RowKit Go.Sx

theorem own : ownKnob Try.prog.godebug = none := by kernel_rfl
theorem laid : laidOutB Try.prog = true := by kernel_rfl
theorem mixed : Try.prog.follows .mixedOrders = true := by kernel_rfl

def v17 : ST := .v (.c (.cb (.and (.and (.cmp .geq (.iv 0) (.lit (.ofNat 0))) (.cmp .leq (.iv 0) (.lit (.ofNat 2)))) (.cmp .geq (.iv 1) (.lit (.ofNat 0))))))
def ss17 : List SV := [.c (.ci .i64 (.iv 0)), .c (.ci .i64 (.iv 1))]
def ks17 : List LK := [.i .i64, .i .i64]
theorem args17 : argTs Try.prog Try.f17.params.toList 0 = some (ss17, ks17) := by kernel_rfl
theorem tree17 : tree Try.prog 12 (sumsIn []) 300 17 ss17 bare 0 ⟨ks17.map LK.rg, []⟩ = .leaf v17 := by kernel_rfl
def sums17 : List Sm := ⟨17, ss17, ks17, v17⟩ :: []
theorem sok17 : SumsOk Try.prog sums17 := sums_cons mixed sums_nil args17 tree17 (by kernel_rfl)
def x9_1 : X := .not (.bv 0)
def x9_23 : X := .and x9_1 (.and (.cmp .eql (.iv 1) (.lit (.ofNat 0))) (.and (.cmp .eql (.iv 2) (.lit (.ofNat 0))) (.and (.cmp .eql (.iv 3) (.lit (.ofNat 0))) (.and (.cmp .eql (.iv 4) (.lit (.ofNat 0))) (.and (.cmp .eql (.iv 5) (.lit (.ofNat 0))) (.and (.cmp .eql (.iv 6) (.lit (.ofNat 0))) (.cmp .eql (.iv 7) (.lit (.ofNat 0)))))))))
def x9_24 : X := .not x9_23
def x9_42 : X := .or (.cmp .lss (.iv 4) (.lit (.ofNat 0))) (.and (.cmp .gtr (.iv 4) (.lit (.ofNat 0))) (.cmp .leq (.iv 4) (.iv 3)))
def x9_48 : X := .or (.cmp .lss (.iv 5) (.lit (.ofNat 0))) (.and (.cmp .gtr (.iv 5) (.lit (.ofNat 0))) (.cmp .leq (.iv 5) (.iv 3)))
def x9_54 : X := .or (.cmp .lss (.iv 6) (.lit (.ofNat 0))) (.and (.cmp .gtr (.iv 6) (.lit (.ofNat 0))) (.cmp .leq (.iv 6) (.iv 3)))
def v9 : ST := .v (.c (.ci .i64 (.ite (.and x9_1 (.or x9_24 x9_23)) (.ite x9_24 (.lit (.ofNat 1)) (.lit (.ofNat 0))) (.ite (.or (.not (.and (.and (.cmp .geq (.iv 1) (.lit (.ofNat 0))) (.cmp .leq (.iv 1) (.lit (.ofNat 2)))) (.cmp .geq (.iv 2) (.lit (.ofNat 0))))) (.cmp .lss (.iv 3) (.lit (.ofNat 0)))) (.lit (.ofNat 1)) (.ite (.or x9_42 (.and (.not x9_42) (.or x9_48 (.and (.not x9_48) (.or x9_54 (.and (.not x9_54) (.or (.cmp .lss (.iv 7) (.lit (.ofNat 0))) (.and (.cmp .gtr (.iv 7) (.lit (.ofNat 0))) (.cmp .leq (.iv 7) (.iv 3)))))))))) (.lit (.ofNat 1)) (.lit (.ofNat 0)))))))
def ss9 : List SV := [.agg [.cb (.bv 0), .ci .i64 (.iv 1), .ci .i64 (.iv 2), .ci .i64 (.iv 3), .ci .i64 (.iv 4), .ci .i64 (.iv 5), .ci .i64 (.iv 6), .ci .i64 (.iv 7)]]
def ks9 : List LK := [.b, .i .i64, .i .i64, .i .i64, .i .i64, .i .i64, .i .i64, .i .i64]
theorem args9 : argTs Try.prog Try.f9.params.toList 0 = some (ss9, ks9) := by kernel_rfl
theorem tree9 : tree Try.prog 12 (sumsIn sums17) 300 9 ss9 bare 0 ⟨ks9.map LK.rg, []⟩ = .leaf v9 := by kernel_rfl
def sums9 : List Sm := ⟨9, ss9, ks9, v9⟩ :: sums17
theorem sok9 : SumsOk Try.prog sums9 := sums_cons mixed sok17 args9 tree9 (by kernel_rfl)
def v18 : ST := .v (.c (.cb (.and (.cmp .geq (.iv 0) (.lit (.ofNat 0))) (.cmp .leq (.iv 0) (.lit (.ofNat 1099511627776))))))
def ss18 : List SV := [.c (.ci .i64 (.iv 0))]
def ks18 : List LK := [.i .i64]
theorem args18 : argTs Try.prog Try.f18.params.toList 0 = some (ss18, ks18) := by kernel_rfl
theorem tree18 : tree Try.prog 12 (sumsIn sums9) 300 18 ss18 bare 0 ⟨ks18.map LK.rg, []⟩ = .leaf v18 := by kernel_rfl
def sums18 : List Sm := ⟨18, ss18, ks18, v18⟩ :: sums9
theorem sok18 : SumsOk Try.prog sums18 := sums_cons mixed sok9 args18 tree18 (by kernel_rfl)
def x7_1 : X := .not (.bv 0)
def x7_23 : X := .and x7_1 (.and (.cmp .eql (.iv 1) (.lit (.ofNat 0))) (.and (.cmp .eql (.iv 2) (.lit (.ofNat 0))) (.and (.cmp .eql (.iv 3) (.lit (.ofNat 0))) (.and (.cmp .eql (.iv 4) (.lit (.ofNat 0))) (.and (.cmp .eql (.iv 5) (.lit (.ofNat 0))) (.and (.cmp .eql (.iv 6) (.lit (.ofNat 0))) (.cmp .eql (.iv 7) (.lit (.ofNat 0)))))))))
def x7_24 : X := .not x7_23
def x7_42 : X := .or (.cmp .lss (.iv 4) (.lit (.ofNat 0))) (.and (.cmp .gtr (.iv 4) (.lit (.ofNat 0))) (.cmp .leq (.iv 4) (.iv 3)))
def x7_48 : X := .or (.cmp .lss (.iv 5) (.lit (.ofNat 0))) (.and (.cmp .gtr (.iv 5) (.lit (.ofNat 0))) (.cmp .leq (.iv 5) (.iv 3)))
def x7_54 : X := .or (.cmp .lss (.iv 6) (.lit (.ofNat 0))) (.and (.cmp .gtr (.iv 6) (.lit (.ofNat 0))) (.cmp .leq (.iv 6) (.iv 3)))
def x7_70 : X := .cmp .neq (.ite (.and x7_1 (.or x7_24 x7_23)) (.ite x7_24 (.lit (.ofNat 1)) (.lit (.ofNat 0))) (.ite (.or (.not (.and (.and (.cmp .geq (.iv 1) (.lit (.ofNat 0))) (.cmp .leq (.iv 1) (.lit (.ofNat 2)))) (.cmp .geq (.iv 2) (.lit (.ofNat 0))))) (.cmp .lss (.iv 3) (.lit (.ofNat 0)))) (.lit (.ofNat 1)) (.ite (.or x7_42 (.and (.not x7_42) (.or x7_48 (.and (.not x7_48) (.or x7_54 (.and (.not x7_54) (.or (.cmp .lss (.iv 7) (.lit (.ofNat 0))) (.and (.cmp .gtr (.iv 7) (.lit (.ofNat 0))) (.cmp .leq (.iv 7) (.iv 3)))))))))) (.lit (.ofNat 1)) (.lit (.ofNat 0))))) (.lit (.ofNat 0))
def x7_86 : X := .or (.or x7_70 (.not (.and (.and (.cmp .geq (.iv 8) (.lit (.ofNat 0))) (.cmp .leq (.iv 8) (.lit (.ofNat 2)))) (.cmp .geq (.iv 9) (.lit (.ofNat 0)))))) (.not (.and (.cmp .geq (.iv 10) (.lit (.ofNat 0))) (.cmp .leq (.iv 10) (.lit (.ofNat 1099511627776)))))
def v7 : ST := .tup [.agg [.cb (.ite x7_86 (.bv 0) (.or x7_1 (.bv 0))), .ci .i64 (.ite x7_86 (.iv 1) (.ite x7_1 (.iv 8) (.iv 1))), .ci .i64 (.ite x7_86 (.iv 2) (.ite x7_1 (.iv 9) (.iv 2))), .ci .i64 (.ite x7_86 (.iv 3) (.ite x7_1 (.iv 10) (.iv 3))), .ci .i64 (.iv 4), .ci .i64 (.iv 5), .ci .i64 (.iv 6), .ci .i64 (.iv 7)], .c (.ci .i64 (.ite x7_86 (.lit (.ofNat 1)) (.lit (.ofNat 0))))]
def ss7 : List SV := [.agg [.cb (.bv 0), .ci .i64 (.iv 1), .ci .i64 (.iv 2), .ci .i64 (.iv 3), .ci .i64 (.iv 4), .ci .i64 (.iv 5), .ci .i64 (.iv 6), .ci .i64 (.iv 7)], .c (.ci .i64 (.iv 8)), .c (.ci .i64 (.iv 9)), .c (.ci .i64 (.iv 10))]
def ks7 : List LK := [.b, .i .i64, .i .i64, .i .i64, .i .i64, .i .i64, .i .i64, .i .i64, .i .i64, .i .i64, .i .i64]
theorem args7 : argTs Try.prog Try.f7.params.toList 0 = some (ss7, ks7) := by kernel_rfl
theorem tree7 : tree Try.prog 12 (sumsIn sums18) 300 7 ss7 bare 0 ⟨ks7.map LK.rg, []⟩ = .leaf v7 := by kernel_rfl
def sums7 : List Sm := ⟨7, ss7, ks7, v7⟩ :: sums18
theorem sok7 : SumsOk Try.prog sums7 := sums_cons mixed sok18 args7 tree7 (by kernel_rfl)
def v12 : ST := .v (.c (.cb (.bl true)))
def ss12 : List SV := []
def ks12 : List LK := []
theorem args12 : argTs Try.prog Try.f12.params.toList 0 = some (ss12, ks12) := by kernel_rfl
theorem tree12 : tree Try.prog 12 (sumsIn sums7) 300 12 ss12 bare 0 ⟨ks12.map LK.rg, []⟩ = .leaf v12 := by kernel_rfl
def sums12 : List Sm := ⟨12, ss12, ks12, v12⟩ :: sums7
theorem sok12 : SumsOk Try.prog sums12 := sums_cons mixed sok7 args12 tree12 (by kernel_rfl)
def ss5 : List SV := [.agg [.cb (.bv 0), .ci .i64 (.iv 1), .ci .i64 (.iv 2), .ci .i64 (.iv 3), .ci .i64 (.iv 4), .ci .i64 (.iv 5), .ci .i64 (.iv 6), .ci .i64 (.iv 7), .ci .i64 (.iv 8), .ci .i64 (.iv 9), .ci .i64 (.iv 10), .ci .i64 (.iv 11)], .c (.ci .u8 (.iv 12)), .c (.ci .u8 (.iv 13))]
def ks5 : List LK := [.b, .i .i64, .i .i64, .i .i64, .i .i64, .i .i64, .i .i64, .i .i64, .i .i64, .i .i64, .i .i64, .i .i64, .i .u8, .i .u8]
theorem args5 : argTs Try.prog Try.f5.params.toList 0 = some (ss5, ks5) := by kernel_rfl
def T (K : Known) : Prop := (tree Try.prog 0 (sumsIn sums12) 300 5 ss5 bare 6 K).prove 300 1000 K = true
def V (K : Known) : Prop := X.prove 20 60 K (.bl false) = true
def c_0 : X := .cmp .lss (.iv 8) (.lit (.ofNat 0))
def c_1 : X := .cmp .gtr (.iv 8) (.lit (.ofNat 2))
def c_2 : X := .cmp .lss (.iv 9) (.lit (.ofNat 0))
def c_3 : X := .cmp .eql (.bin .rem .u8 (.iv 12) (.lit (.ofNat 20))) (.lit (.ofNat 0))
def c_4 : X := .cmp .neq (.bin .and .u64 (.iv 13) (.lit (.ofNat 1))) (.lit (.ofNat 0))
def c_5 : X := .cmp .neq (.bin .and .u64 (.iv 13) (.lit (.ofNat 2))) (.lit (.ofNat 0))
def c_6 : X := .cmp .eql (.bin .rem .u8 (.iv 12) (.lit (.ofNat 20))) (.lit (.ofNat 1))
def c_7 : X := .cmp .eql (.bin .rem .u8 (.iv 12) (.lit (.ofNat 20))) (.lit (.ofNat 2))
def c_8 : X := .cmp .eql (.bin .rem .u8 (.iv 12) (.lit (.ofNat 20))) (.lit (.ofNat 3))
def c_9 : X := .cmp .eql (.bin .rem .u8 (.iv 12) (.lit (.ofNat 20))) (.lit (.ofNat 4))
def c_10 : X := .cmp .eql (.bin .rem .u8 (.iv 12) (.lit (.ofNat 20))) (.lit (.ofNat 5))
def c_11 : X := .cmp .eql (.bin .rem .u8 (.iv 12) (.lit (.ofNat 20))) (.lit (.ofNat 6))
def c_12 : X := .cmp .eql (.bin .rem .u8 (.iv 12) (.lit (.ofNat 20))) (.lit (.ofNat 7))
def c_13 : X := .cmp .eql (.bin .rem .u8 (.iv 12) (.lit (.ofNat 20))) (.lit (.ofNat 8))
def c_14 : X := .cmp .eql (.bin .rem .u8 (.iv 12) (.lit (.ofNat 20))) (.lit (.ofNat 9))
def c_15 : X := .cmp .eql (.bin .rem .u8 (.iv 12) (.lit (.ofNat 20))) (.lit (.ofNat 10))
def c_16 : X := .cmp .eql (.bin .rem .u8 (.iv 12) (.lit (.ofNat 20))) (.lit (.ofNat 11))
def c_17 : X := .cmp .eql (.bin .rem .u8 (.iv 12) (.lit (.ofNat 20))) (.lit (.ofNat 12))
def c_18 : X := .cmp .eql (.bin .rem .u8 (.iv 12) (.lit (.ofNat 20))) (.lit (.ofNat 13))
def c_19 : X := .cmp .eql (.bin .rem .u8 (.iv 12) (.lit (.ofNat 20))) (.lit (.ofNat 14))
def c_20 : X := .cmp .eql (.bin .rem .u8 (.iv 12) (.lit (.ofNat 20))) (.lit (.ofNat 15))
def c_21 : X := .cmp .eql (.bin .rem .u8 (.iv 12) (.lit (.ofNat 20))) (.lit (.ofNat 16))
def c_22 : X := .cmp .eql (.bin .rem .u8 (.iv 12) (.lit (.ofNat 20))) (.lit (.ofNat 17))
def c_23 : X := .cmp .eql (.bin .rem .u8 (.iv 12) (.lit (.ofNat 20))) (.lit (.ofNat 18))
def c_24 : X := .cmp .eql (.bin .rem .u8 (.iv 12) (.lit (.ofNat 20))) (.lit (.ofNat 19))
def K_0 : Known := ⟨ks5.map LK.rg, []⟩
def K_1 : Known := K_0.assume c_0 true
def K_2 : Known := K_0.assume c_0 false
def K_3 : Known := K_2.assume c_1 true
def K_4 : Known := K_2.assume c_1 false
def K_5 : Known := K_4.assume c_2 true
def K_6 : Known := K_4.assume c_2 false
def K_7 : Known := K_6.assume c_3 true
def K_8 : Known := K_7.assume c_4 true
def K_9 : Known := K_8.assume c_5 true
def K_10 : Known := K_8.assume c_5 false
def K_11 : Known := K_7.assume c_4 false
def K_12 : Known := K_11.assume c_5 true
def K_13 : Known := K_11.assume c_5 false
def K_14 : Known := K_6.assume c_3 false
def K_15 : Known := K_14.assume c_6 true
def K_16 : Known := K_15.assume c_4 true
def K_17 : Known := K_16.assume c_5 true
def K_18 : Known := K_16.assume c_5 false
def K_19 : Known := K_15.assume c_4 false
def K_20 : Known := K_19.assume c_5 true
def K_21 : Known := K_19.assume c_5 false
def K_22 : Known := K_14.assume c_6 false
def K_23 : Known := K_22.assume c_7 true
def K_24 : Known := K_23.assume c_4 true
def K_25 : Known := K_24.assume c_5 true
def K_26 : Known := K_24.assume c_5 false
def K_27 : Known := K_23.assume c_4 false
def K_28 : Known := K_27.assume c_5 true
def K_29 : Known := K_27.assume c_5 false
def K_30 : Known := K_22.assume c_7 false
def K_31 : Known := K_30.assume c_8 true
def K_32 : Known := K_31.assume c_4 true
def K_33 : Known := K_32.assume c_5 true
def K_34 : Known := K_32.assume c_5 false
def K_35 : Known := K_31.assume c_4 false
def K_36 : Known := K_35.assume c_5 true
def K_37 : Known := K_35.assume c_5 false
def K_38 : Known := K_30.assume c_8 false
def K_39 : Known := K_38.assume c_9 true
def K_40 : Known := K_39.assume c_4 true
def K_41 : Known := K_40.assume c_5 true
def K_42 : Known := K_40.assume c_5 false
def K_43 : Known := K_39.assume c_4 false
def K_44 : Known := K_43.assume c_5 true
def K_45 : Known := K_43.assume c_5 false
def K_46 : Known := K_38.assume c_9 false
def K_47 : Known := K_46.assume c_10 true
def K_48 : Known := K_47.assume c_4 true
def K_49 : Known := K_48.assume c_5 true
def K_50 : Known := K_48.assume c_5 false
def K_51 : Known := K_47.assume c_4 false
def K_52 : Known := K_51.assume c_5 true
def K_53 : Known := K_51.assume c_5 false
def K_54 : Known := K_46.assume c_10 false
def K_55 : Known := K_54.assume c_11 true
def K_56 : Known := K_55.assume c_4 true
def K_57 : Known := K_56.assume c_5 true
def K_58 : Known := K_56.assume c_5 false
def K_59 : Known := K_55.assume c_4 false
def K_60 : Known := K_59.assume c_5 true
def K_61 : Known := K_59.assume c_5 false
def K_62 : Known := K_54.assume c_11 false
def K_63 : Known := K_62.assume c_12 true
def K_64 : Known := K_63.assume c_4 true
def K_65 : Known := K_64.assume c_5 true
def K_66 : Known := K_64.assume c_5 false
def K_67 : Known := K_63.assume c_4 false
def K_68 : Known := K_67.assume c_5 true
def K_69 : Known := K_67.assume c_5 false
def K_70 : Known := K_62.assume c_12 false
def K_71 : Known := K_70.assume c_13 true
def K_72 : Known := K_71.assume c_4 true
def K_73 : Known := K_72.assume c_5 true
def K_74 : Known := K_72.assume c_5 false
def K_75 : Known := K_71.assume c_4 false
def K_76 : Known := K_75.assume c_5 true
def K_77 : Known := K_75.assume c_5 false
def K_78 : Known := K_70.assume c_13 false
def K_79 : Known := K_78.assume c_14 true
def K_80 : Known := K_79.assume c_4 true
def K_81 : Known := K_80.assume c_5 true
def K_82 : Known := K_80.assume c_5 false
def K_83 : Known := K_79.assume c_4 false
def K_84 : Known := K_83.assume c_5 true
def K_85 : Known := K_83.assume c_5 false
def K_86 : Known := K_78.assume c_14 false
def K_87 : Known := K_86.assume c_15 true
def K_88 : Known := K_87.assume c_4 true
def K_89 : Known := K_88.assume c_5 true
def K_90 : Known := K_88.assume c_5 false
def K_91 : Known := K_87.assume c_4 false
def K_92 : Known := K_91.assume c_5 true
def K_93 : Known := K_91.assume c_5 false
def K_94 : Known := K_86.assume c_15 false
def K_95 : Known := K_94.assume c_16 true
def K_96 : Known := K_95.assume c_4 true
def K_97 : Known := K_96.assume c_5 true
def K_98 : Known := K_96.assume c_5 false
def K_99 : Known := K_95.assume c_4 false
def K_100 : Known := K_99.assume c_5 true
def K_101 : Known := K_99.assume c_5 false
def K_102 : Known := K_94.assume c_16 false
def K_103 : Known := K_102.assume c_17 true
def K_104 : Known := K_103.assume c_4 true
def K_105 : Known := K_104.assume c_5 true
def K_106 : Known := K_104.assume c_5 false
def K_107 : Known := K_103.assume c_4 false
def K_108 : Known := K_107.assume c_5 true
def K_109 : Known := K_107.assume c_5 false
def K_110 : Known := K_102.assume c_17 false
def K_111 : Known := K_110.assume c_18 true
def K_112 : Known := K_111.assume c_4 true
def K_113 : Known := K_112.assume c_5 true
def K_114 : Known := K_112.assume c_5 false
def K_115 : Known := K_111.assume c_4 false
def K_116 : Known := K_115.assume c_5 true
def K_117 : Known := K_115.assume c_5 false
def K_118 : Known := K_110.assume c_18 false
def K_119 : Known := K_118.assume c_19 true
def K_120 : Known := K_119.assume c_4 true
def K_121 : Known := K_120.assume c_5 true
def K_122 : Known := K_120.assume c_5 false
def K_123 : Known := K_119.assume c_4 false
def K_124 : Known := K_123.assume c_5 true
def K_125 : Known := K_123.assume c_5 false
def K_126 : Known := K_118.assume c_19 false
def K_127 : Known := K_126.assume c_20 true
def K_128 : Known := K_127.assume c_4 true
def K_129 : Known := K_128.assume c_5 true
def K_130 : Known := K_128.assume c_5 false
def K_131 : Known := K_127.assume c_4 false
def K_132 : Known := K_131.assume c_5 true
def K_133 : Known := K_131.assume c_5 false
def K_134 : Known := K_126.assume c_20 false
def K_135 : Known := K_134.assume c_21 true
def K_136 : Known := K_135.assume c_4 true
def K_137 : Known := K_136.assume c_5 true
def K_138 : Known := K_136.assume c_5 false
def K_139 : Known := K_135.assume c_4 false
def K_140 : Known := K_139.assume c_5 true
def K_141 : Known := K_139.assume c_5 false
def K_142 : Known := K_134.assume c_21 false
def K_143 : Known := K_142.assume c_22 true
def K_144 : Known := K_143.assume c_4 true
def K_145 : Known := K_144.assume c_5 true
def K_146 : Known := K_144.assume c_5 false
def K_147 : Known := K_143.assume c_4 false
def K_148 : Known := K_147.assume c_5 true
def K_149 : Known := K_147.assume c_5 false
def K_150 : Known := K_142.assume c_22 false
def K_151 : Known := K_150.assume c_23 true
def K_152 : Known := K_151.assume c_4 true
def K_153 : Known := K_152.assume c_5 true
def K_154 : Known := K_152.assume c_5 false
def K_155 : Known := K_151.assume c_4 false
def K_156 : Known := K_155.assume c_5 true
def K_157 : Known := K_155.assume c_5 false
def K_158 : Known := K_150.assume c_23 false
def K_159 : Known := K_158.assume c_24 true
def K_160 : Known := K_159.assume c_4 true
def K_161 : Known := K_160.assume c_5 true
def K_162 : Known := K_160.assume c_5 false
def K_163 : Known := K_159.assume c_4 false
def K_164 : Known := K_163.assume c_5 true
def K_165 : Known := K_163.assume c_5 false
theorem leaf_1 : T K_1 := by unfold T; kernel_rfl
theorem leaf_3 : T K_3 := by unfold T; kernel_rfl
theorem leaf_5 : T K_5 := by unfold T; kernel_rfl
theorem leaf_9 : T K_9 := by unfold T; kernel_rfl
theorem leaf_10 : T K_10 := by unfold T; kernel_rfl
theorem leaf_12 : T K_12 := by unfold T; kernel_rfl
theorem leaf_13 : T K_13 := by unfold T; kernel_rfl
theorem leaf_17 : T K_17 := by unfold T; kernel_rfl
theorem leaf_18 : T K_18 := by unfold T; kernel_rfl
theorem leaf_20 : T K_20 := by unfold T; kernel_rfl
theorem leaf_21 : T K_21 := by unfold T; kernel_rfl
theorem leaf_25 : T K_25 := by unfold T; kernel_rfl
theorem leaf_26 : T K_26 := by unfold T; kernel_rfl
theorem leaf_28 : T K_28 := by unfold T; kernel_rfl
theorem leaf_29 : T K_29 := by unfold T; kernel_rfl
theorem leaf_33 : T K_33 := by unfold T; kernel_rfl
theorem leaf_34 : T K_34 := by unfold T; kernel_rfl
theorem leaf_36 : T K_36 := by unfold T; kernel_rfl
theorem leaf_37 : T K_37 := by unfold T; kernel_rfl
theorem leaf_41 : T K_41 := by unfold T; kernel_rfl
theorem leaf_42 : T K_42 := by unfold T; kernel_rfl
theorem leaf_44 : T K_44 := by unfold T; kernel_rfl
theorem leaf_45 : T K_45 := by unfold T; kernel_rfl
theorem leaf_49 : T K_49 := by unfold T; kernel_rfl
theorem leaf_50 : T K_50 := by unfold T; kernel_rfl
theorem leaf_52 : T K_52 := by unfold T; kernel_rfl
theorem leaf_53 : T K_53 := by unfold T; kernel_rfl
theorem leaf_57 : T K_57 := by unfold T; kernel_rfl
theorem leaf_58 : T K_58 := by unfold T; kernel_rfl
theorem leaf_60 : T K_60 := by unfold T; kernel_rfl
theorem leaf_61 : T K_61 := by unfold T; kernel_rfl
theorem leaf_65 : T K_65 := by unfold T; kernel_rfl
theorem leaf_66 : T K_66 := by unfold T; kernel_rfl
theorem leaf_68 : T K_68 := by unfold T; kernel_rfl
theorem leaf_69 : T K_69 := by unfold T; kernel_rfl
theorem leaf_73 : T K_73 := by unfold T; kernel_rfl
theorem leaf_74 : T K_74 := by unfold T; kernel_rfl
theorem leaf_76 : T K_76 := by unfold T; kernel_rfl
theorem leaf_77 : T K_77 := by unfold T; kernel_rfl
theorem leaf_81 : T K_81 := by unfold T; kernel_rfl
theorem leaf_82 : T K_82 := by unfold T; kernel_rfl
theorem leaf_84 : T K_84 := by unfold T; kernel_rfl
theorem leaf_85 : T K_85 := by unfold T; kernel_rfl
theorem leaf_89 : T K_89 := by unfold T; kernel_rfl
theorem leaf_90 : T K_90 := by unfold T; kernel_rfl
theorem leaf_92 : T K_92 := by unfold T; kernel_rfl
theorem leaf_93 : T K_93 := by unfold T; kernel_rfl
theorem leaf_97 : T K_97 := by unfold T; kernel_rfl
theorem leaf_98 : T K_98 := by unfold T; kernel_rfl
theorem leaf_100 : T K_100 := by unfold T; kernel_rfl
theorem leaf_101 : T K_101 := by unfold T; kernel_rfl
theorem leaf_105 : T K_105 := by unfold T; kernel_rfl
theorem leaf_106 : T K_106 := by unfold T; kernel_rfl
theorem leaf_108 : T K_108 := by unfold T; kernel_rfl
theorem leaf_109 : T K_109 := by unfold T; kernel_rfl
theorem leaf_113 : T K_113 := by unfold T; kernel_rfl
theorem leaf_114 : T K_114 := by unfold T; kernel_rfl
theorem leaf_116 : T K_116 := by unfold T; kernel_rfl
theorem leaf_117 : T K_117 := by unfold T; kernel_rfl
theorem leaf_121 : T K_121 := by unfold T; kernel_rfl
theorem leaf_122 : T K_122 := by unfold T; kernel_rfl
theorem leaf_124 : T K_124 := by unfold T; kernel_rfl
theorem leaf_125 : T K_125 := by unfold T; kernel_rfl
theorem leaf_129 : T K_129 := by unfold T; kernel_rfl
theorem leaf_130 : T K_130 := by unfold T; kernel_rfl
theorem leaf_132 : T K_132 := by unfold T; kernel_rfl
theorem leaf_133 : T K_133 := by unfold T; kernel_rfl
theorem leaf_137 : T K_137 := by unfold T; kernel_rfl
theorem leaf_138 : T K_138 := by unfold T; kernel_rfl
theorem leaf_140 : T K_140 := by unfold T; kernel_rfl
theorem leaf_141 : T K_141 := by unfold T; kernel_rfl
theorem leaf_145 : T K_145 := by unfold T; kernel_rfl
theorem leaf_146 : T K_146 := by unfold T; kernel_rfl
theorem leaf_148 : T K_148 := by unfold T; kernel_rfl
theorem leaf_149 : T K_149 := by unfold T; kernel_rfl
theorem leaf_153 : T K_153 := by unfold T; kernel_rfl
theorem leaf_154 : T K_154 := by unfold T; kernel_rfl
theorem leaf_156 : T K_156 := by unfold T; kernel_rfl
theorem leaf_157 : T K_157 := by unfold T; kernel_rfl
theorem leaf_161 : T K_161 := by unfold T; kernel_rfl
theorem leaf_162 : T K_162 := by unfold T; kernel_rfl
theorem leaf_164 : T K_164 := by unfold T; kernel_rfl
theorem leaf_165 : T K_165 := by unfold T; kernel_rfl
theorem know_158 : X.prove 300 1000 K_158 c_24 = true := by kernel_rfl
theorem plan5 : ∀ ρ, (⟨ks5.map LK.rg, []⟩ : Known).ok ρ → ∃ K d, K.ok ρ ∧ (tree Try.prog 0 (sumsIn sums12) 300 5 ss5 bare d K).prove 300 1000 K = true := fun _ h => split_on c_0 h (fun (h : K_1.ok _) => ⟨K_1, 6, h, leaf_1⟩) (fun (h : K_2.ok _) => split_on c_1 h (fun (h : K_3.ok _) => ⟨K_3, 6, h, leaf_3⟩) (fun (h : K_4.ok _) => split_on c_2 h (fun (h : K_5.ok _) => ⟨K_5, 6, h, leaf_5⟩) (fun (h : K_6.ok _) => split_on c_3 h (fun (h : K_7.ok _) => split_on c_4 h (fun (h : K_8.ok _) => split_on c_5 h (fun (h : K_9.ok _) => ⟨K_9, 6, h, leaf_9⟩) (fun (h : K_10.ok _) => ⟨K_10, 6, h, leaf_10⟩)) (fun (h : K_11.ok _) => split_on c_5 h (fun (h : K_12.ok _) => ⟨K_12, 6, h, leaf_12⟩) (fun (h : K_13.ok _) => ⟨K_13, 6, h, leaf_13⟩))) (fun (h : K_14.ok _) => split_on c_6 h (fun (h : K_15.ok _) => split_on c_4 h (fun (h : K_16.ok _) => split_on c_5 h (fun (h : K_17.ok _) => ⟨K_17, 6, h, leaf_17⟩) (fun (h : K_18.ok _) => ⟨K_18, 6, h, leaf_18⟩)) (fun (h : K_19.ok _) => split_on c_5 h (fun (h : K_20.ok _) => ⟨K_20, 6, h, leaf_20⟩) (fun (h : K_21.ok _) => ⟨K_21, 6, h, leaf_21⟩))) (fun (h : K_22.ok _) => split_on c_7 h (fun (h : K_23.ok _) => split_on c_4 h (fun (h : K_24.ok _) => split_on c_5 h (fun (h : K_25.ok _) => ⟨K_25, 6, h, leaf_25⟩) (fun (h : K_26.ok _) => ⟨K_26, 6, h, leaf_26⟩)) (fun (h : K_27.ok _) => split_on c_5 h (fun (h : K_28.ok _) => ⟨K_28, 6, h, leaf_28⟩) (fun (h : K_29.ok _) => ⟨K_29, 6, h, leaf_29⟩))) (fun (h : K_30.ok _) => split_on c_8 h (fun (h : K_31.ok _) => split_on c_4 h (fun (h : K_32.ok _) => split_on c_5 h (fun (h : K_33.ok _) => ⟨K_33, 6, h, leaf_33⟩) (fun (h : K_34.ok _) => ⟨K_34, 6, h, leaf_34⟩)) (fun (h : K_35.ok _) => split_on c_5 h (fun (h : K_36.ok _) => ⟨K_36, 6, h, leaf_36⟩) (fun (h : K_37.ok _) => ⟨K_37, 6, h, leaf_37⟩))) (fun (h : K_38.ok _) => split_on c_9 h (fun (h : K_39.ok _) => split_on c_4 h (fun (h : K_40.ok _) => split_on c_5 h (fun (h : K_41.ok _) => ⟨K_41, 6, h, leaf_41⟩) (fun (h : K_42.ok _) => ⟨K_42, 6, h, leaf_42⟩)) (fun (h : K_43.ok _) => split_on c_5 h (fun (h : K_44.ok _) => ⟨K_44, 6, h, leaf_44⟩) (fun (h : K_45.ok _) => ⟨K_45, 6, h, leaf_45⟩))) (fun (h : K_46.ok _) => split_on c_10 h (fun (h : K_47.ok _) => split_on c_4 h (fun (h : K_48.ok _) => split_on c_5 h (fun (h : K_49.ok _) => ⟨K_49, 6, h, leaf_49⟩) (fun (h : K_50.ok _) => ⟨K_50, 6, h, leaf_50⟩)) (fun (h : K_51.ok _) => split_on c_5 h (fun (h : K_52.ok _) => ⟨K_52, 6, h, leaf_52⟩) (fun (h : K_53.ok _) => ⟨K_53, 6, h, leaf_53⟩))) (fun (h : K_54.ok _) => split_on c_11 h (fun (h : K_55.ok _) => split_on c_4 h (fun (h : K_56.ok _) => split_on c_5 h (fun (h : K_57.ok _) => ⟨K_57, 6, h, leaf_57⟩) (fun (h : K_58.ok _) => ⟨K_58, 6, h, leaf_58⟩)) (fun (h : K_59.ok _) => split_on c_5 h (fun (h : K_60.ok _) => ⟨K_60, 6, h, leaf_60⟩) (fun (h : K_61.ok _) => ⟨K_61, 6, h, leaf_61⟩))) (fun (h : K_62.ok _) => split_on c_12 h (fun (h : K_63.ok _) => split_on c_4 h (fun (h : K_64.ok _) => split_on c_5 h (fun (h : K_65.ok _) => ⟨K_65, 6, h, leaf_65⟩) (fun (h : K_66.ok _) => ⟨K_66, 6, h, leaf_66⟩)) (fun (h : K_67.ok _) => split_on c_5 h (fun (h : K_68.ok _) => ⟨K_68, 6, h, leaf_68⟩) (fun (h : K_69.ok _) => ⟨K_69, 6, h, leaf_69⟩))) (fun (h : K_70.ok _) => split_on c_13 h (fun (h : K_71.ok _) => split_on c_4 h (fun (h : K_72.ok _) => split_on c_5 h (fun (h : K_73.ok _) => ⟨K_73, 6, h, leaf_73⟩) (fun (h : K_74.ok _) => ⟨K_74, 6, h, leaf_74⟩)) (fun (h : K_75.ok _) => split_on c_5 h (fun (h : K_76.ok _) => ⟨K_76, 6, h, leaf_76⟩) (fun (h : K_77.ok _) => ⟨K_77, 6, h, leaf_77⟩))) (fun (h : K_78.ok _) => split_on c_14 h (fun (h : K_79.ok _) => split_on c_4 h (fun (h : K_80.ok _) => split_on c_5 h (fun (h : K_81.ok _) => ⟨K_81, 6, h, leaf_81⟩) (fun (h : K_82.ok _) => ⟨K_82, 6, h, leaf_82⟩)) (fun (h : K_83.ok _) => split_on c_5 h (fun (h : K_84.ok _) => ⟨K_84, 6, h, leaf_84⟩) (fun (h : K_85.ok _) => ⟨K_85, 6, h, leaf_85⟩))) (fun (h : K_86.ok _) => split_on c_15 h (fun (h : K_87.ok _) => split_on c_4 h (fun (h : K_88.ok _) => split_on c_5 h (fun (h : K_89.ok _) => ⟨K_89, 6, h, leaf_89⟩) (fun (h : K_90.ok _) => ⟨K_90, 6, h, leaf_90⟩)) (fun (h : K_91.ok _) => split_on c_5 h (fun (h : K_92.ok _) => ⟨K_92, 6, h, leaf_92⟩) (fun (h : K_93.ok _) => ⟨K_93, 6, h, leaf_93⟩))) (fun (h : K_94.ok _) => split_on c_16 h (fun (h : K_95.ok _) => split_on c_4 h (fun (h : K_96.ok _) => split_on c_5 h (fun (h : K_97.ok _) => ⟨K_97, 6, h, leaf_97⟩) (fun (h : K_98.ok _) => ⟨K_98, 6, h, leaf_98⟩)) (fun (h : K_99.ok _) => split_on c_5 h (fun (h : K_100.ok _) => ⟨K_100, 6, h, leaf_100⟩) (fun (h : K_101.ok _) => ⟨K_101, 6, h, leaf_101⟩))) (fun (h : K_102.ok _) => split_on c_17 h (fun (h : K_103.ok _) => split_on c_4 h (fun (h : K_104.ok _) => split_on c_5 h (fun (h : K_105.ok _) => ⟨K_105, 6, h, leaf_105⟩) (fun (h : K_106.ok _) => ⟨K_106, 6, h, leaf_106⟩)) (fun (h : K_107.ok _) => split_on c_5 h (fun (h : K_108.ok _) => ⟨K_108, 6, h, leaf_108⟩) (fun (h : K_109.ok _) => ⟨K_109, 6, h, leaf_109⟩))) (fun (h : K_110.ok _) => split_on c_18 h (fun (h : K_111.ok _) => split_on c_4 h (fun (h : K_112.ok _) => split_on c_5 h (fun (h : K_113.ok _) => ⟨K_113, 6, h, leaf_113⟩) (fun (h : K_114.ok _) => ⟨K_114, 6, h, leaf_114⟩)) (fun (h : K_115.ok _) => split_on c_5 h (fun (h : K_116.ok _) => ⟨K_116, 6, h, leaf_116⟩) (fun (h : K_117.ok _) => ⟨K_117, 6, h, leaf_117⟩))) (fun (h : K_118.ok _) => split_on c_19 h (fun (h : K_119.ok _) => split_on c_4 h (fun (h : K_120.ok _) => split_on c_5 h (fun (h : K_121.ok _) => ⟨K_121, 6, h, leaf_121⟩) (fun (h : K_122.ok _) => ⟨K_122, 6, h, leaf_122⟩)) (fun (h : K_123.ok _) => split_on c_5 h (fun (h : K_124.ok _) => ⟨K_124, 6, h, leaf_124⟩) (fun (h : K_125.ok _) => ⟨K_125, 6, h, leaf_125⟩))) (fun (h : K_126.ok _) => split_on c_20 h (fun (h : K_127.ok _) => split_on c_4 h (fun (h : K_128.ok _) => split_on c_5 h (fun (h : K_129.ok _) => ⟨K_129, 6, h, leaf_129⟩) (fun (h : K_130.ok _) => ⟨K_130, 6, h, leaf_130⟩)) (fun (h : K_131.ok _) => split_on c_5 h (fun (h : K_132.ok _) => ⟨K_132, 6, h, leaf_132⟩) (fun (h : K_133.ok _) => ⟨K_133, 6, h, leaf_133⟩))) (fun (h : K_134.ok _) => split_on c_21 h (fun (h : K_135.ok _) => split_on c_4 h (fun (h : K_136.ok _) => split_on c_5 h (fun (h : K_137.ok _) => ⟨K_137, 6, h, leaf_137⟩) (fun (h : K_138.ok _) => ⟨K_138, 6, h, leaf_138⟩)) (fun (h : K_139.ok _) => split_on c_5 h (fun (h : K_140.ok _) => ⟨K_140, 6, h, leaf_140⟩) (fun (h : K_141.ok _) => ⟨K_141, 6, h, leaf_141⟩))) (fun (h : K_142.ok _) => split_on c_22 h (fun (h : K_143.ok _) => split_on c_4 h (fun (h : K_144.ok _) => split_on c_5 h (fun (h : K_145.ok _) => ⟨K_145, 6, h, leaf_145⟩) (fun (h : K_146.ok _) => ⟨K_146, 6, h, leaf_146⟩)) (fun (h : K_147.ok _) => split_on c_5 h (fun (h : K_148.ok _) => ⟨K_148, 6, h, leaf_148⟩) (fun (h : K_149.ok _) => ⟨K_149, 6, h, leaf_149⟩))) (fun (h : K_150.ok _) => split_on c_23 h (fun (h : K_151.ok _) => split_on c_4 h (fun (h : K_152.ok _) => split_on c_5 h (fun (h : K_153.ok _) => ⟨K_153, 6, h, leaf_153⟩) (fun (h : K_154.ok _) => ⟨K_154, 6, h, leaf_154⟩)) (fun (h : K_155.ok _) => split_on c_5 h (fun (h : K_156.ok _) => ⟨K_156, 6, h, leaf_156⟩) (fun (h : K_157.ok _) => ⟨K_157, 6, h, leaf_157⟩))) (fun (h : K_158.ok _) => split_know c_24 h know_158 (fun (h : K_159.ok _) => split_on c_4 h (fun (h : K_160.ok _) => split_on c_5 h (fun (h : K_161.ok _) => ⟨K_161, 6, h, leaf_161⟩) (fun (h : K_162.ok _) => ⟨K_162, 6, h, leaf_162⟩)) (fun (h : K_163.ok _) => split_on c_5 h (fun (h : K_164.ok _) => ⟨K_164, 6, h, leaf_164⟩) (fun (h : K_165.ok _) => ⟨K_165, 6, h, leaf_165⟩)))))))))))))))))))))))))

def zeros : Env := ⟨fun _ => 0, fun _ => false, fun _ _ => 0, fun _ _ => false, fun _ => .bool false⟩
set_option maxRecDepth 100000 in
theorem lifted5 (os : Os) (started : os.Started) (H : Type) (enc : TypeId × Value → H) :
    ReturnsInHanded {} Try.checked os 5 .any (Rows.flowFourSpec.pre6 enc Try.prog Try.f5 Rows.flowFourRow.domain false) (Rows.flowFourSpec.post enc Try.prog Try.f5 false true false false) := by
  refine returnsInHanded_of_change (C := Try.checked) own started (by kernel_rfl) Try.func5
    (ChangeSpec.witness6 (enc := enc) (C := Try.checked) false ⟨#[], (ss5.map (SV.den zeros fun _ => 0)).toArray, []⟩ 8 (by kernel_rfl) (by kernel_rfl) (by kernel_rfl) (by kernel_rfl)) ?_
  intro W base args ds gs before hval0 hW _ _
  have hval : ∀ (j : Nat) t v, Try.f5.params[j]? = some t → args[j]? = some v → Value.okWide Try.prog W .any base t v := hval0
  have hW' := hW
  obtain ⟨p, q, hA0, hV, rfl, _, _⟩ := hW
  have hA : DataW.TrodAll enc Try.prog W 0 (fun _ => true) true Try.f5.params.toList args.toList ds p := hA0
  obtain ⟨rfl, rfl⟩ := trodVars_none hV
  have hA1 := hA
  rw [Try.params5] at hA1
  obtain ⟨v0, v1, v2, d0, d1, d2, p0, p1, p2, e1, rfl, _, _, _, _⟩ := trodAll_three hA1
  refine (flat_plan (r := .any) (base := base) mixed sok12 args5 plan5 (w := W) (by rw [e1]; rfl) (fun j t v ht hv => hval j t v (by simpa using ht) hv)).mono fun e W' ⟨⟨v, he, hv⟩, hb⟩ => ?_
  subst hv
  subst he
  exact ⟨_, rfl, law_post (tb := 4) laid rfl (by rw [Try.params5]; intro t ht; simp at ht; first | (subst ht; exact ⟨by kernel_rfl, of_decide_eq_true (by kernel_rfl)⟩) | (rcases ht with rfl | rfl <;> exact ⟨by kernel_rfl, of_decide_eq_true (by kernel_rfl)⟩) | (rcases ht with rfl | rfl | rfl <;> exact ⟨by kernel_rfl, of_decide_eq_true (by kernel_rfl)⟩)) rfl Try.underlying4 hW' hA hb ⟨rfl, rfl, rfl⟩⟩

theorem flowFour_holds : Rows.FlowFourSaid :=
  OpenClaim.holds_of_wide 5 Try.f5 rfl rfl rfl rfl rfl rfl rfl ⟨rfl, rfl, rfl, rfl, rfl⟩ rfl rfl rfl rfl rfl (by kernel_rfl) Try.func5 (by kernel_rfl)
    (of_decide_eq_true (by kernel_rfl)) (by unfold Func.isWrapper; first | (rw [if_pos (by decide +kernel)]; kernel_rfl) | (rw [if_neg (by decide +kernel)]; exact ⟨rfl, rfl⟩))
    (fun os started H enc _ => lifted5 os started H enc)
#print axioms flowFour_holds
end Go.Proofs.Ythehpoipeapiaaa
