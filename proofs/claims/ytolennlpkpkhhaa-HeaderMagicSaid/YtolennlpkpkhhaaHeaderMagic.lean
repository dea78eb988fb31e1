/- For every input HeaderMagic answers true. -/
import Derived.Test.YtolennlpkpkhhaaRows
import Derived.Test.YtolennlpkpkhhaaSx24
namespace Go.Proofs.Ytolennlpkpkhhaa
open Go.ChangeShapes Go.WideShapes Go.ChangeAt Go.RowKit Go.Sx

theorem own : ownKnob Try.prog.godebug = none := by kernel_rfl
theorem laid : laidOutB Try.prog = true := by kernel_rfl
theorem mixed : Try.prog.follows .mixedOrders = true := by kernel_rfl

def v15 : ST := .v (.agg [.ci .i64 (.lit (.ofNat 0)), .ci .i64 (.lit (.ofNat 0)), .ci .i64 (.lit (.ofNat 16384)), .ci .i64 (.lit (.ofNat 8192)), .cb (.bl false), .cb (.bl false), .cb (.bl false), .cb (.bl false), .cb (.bl false)])
def ss15 : List SV := []
def ks15 : List LK := []
theorem args15 : argTs Try.prog Try.f15.params.toList 0 = some (ss15, ks15) := by kernel_rfl
theorem tree15 : tree Try.prog 12 (sumsIn []) 300 15 ss15 bare 0 ⟨ks15.map LK.rg, []⟩ = .leaf v15 := by kernel_rfl
def sums15 : List Sm := ⟨15, ss15, ks15, v15⟩ :: []
theorem sok15 : SumsOk Try.prog sums15 := sums_cons mixed sums_nil args15 tree15 (by kernel_rfl)
def v20 : ST := .v (.c (.cb (.or (.and (.cmp .geq (.iv 0) (.lit (.ofNat 0))) (.cmp .leq (.iv 0) (.lit (.ofNat 4)))) (.cmp .eql (.iv 0) (.lit (.ofNat 7))))))
def ss20 : List SV := [.c (.ci .i64 (.iv 0))]
def ks20 : List LK := [.i .i64]
theorem args20 : argTs Try.prog Try.f20.params.toList 0 = some (ss20, ks20) := by kernel_rfl
theorem tree20 : tree Try.prog 12 (sumsIn sums15) 300 20 ss20 bare 0 ⟨ks20.map LK.rg, []⟩ = .leaf v20 := by kernel_rfl
def sums20 : List Sm := ⟨20, ss20, ks20, v20⟩ :: sums15
theorem sok20 : SumsOk Try.prog sums20 := sums_cons mixed sok15 args20 tree20 (by kernel_rfl)
def x11_9 : X := .not (.or (.and (.cmp .geq (.iv 0) (.lit (.ofNat 0))) (.cmp .leq (.iv 0) (.lit (.ofNat 4)))) (.cmp .eql (.iv 0) (.lit (.ofNat 7))))
def x11_12 : X := .bin .quo .i64 (.iv 2) (.lit (.ofNat 16384))
def x11_14 : X := .cmp .eql x11_12 (.lit (.ofNat 1))
def x11_15 : X := .not x11_14
def x11_17 : X := .cmp .eql x11_12 (.lit (.ofNat 2))
def x11_19 : X := .not x11_17
def x11_20 : X := .cmp .eql x11_12 (.lit (.ofNat 4))
def x11_23 : X := .not x11_20
def x11_25 : X := .cmp .eql x11_12 (.lit (.ofNat 8))
def x11_30 : X := .not x11_25
def x11_32 : X := .cmp .eql x11_12 (.lit (.ofNat 16))
def x11_53 : X := .cmp .geq (.ite x11_14 (.lit (.ofNat 0)) (.ite (.and x11_15 x11_17) (.lit (.ofNat 1)) (.ite (.and x11_15 (.and x11_19 x11_20)) (.lit (.ofNat 2)) (.ite (.and x11_15 (.and x11_19 (.and x11_23 x11_25))) (.lit (.ofNat 3)) (.ite (.and x11_15 (.and x11_19 (.and x11_23 (.and x11_30 x11_32)))) (.lit (.ofNat 4)) (.ite (.and x11_15 (.and x11_19 (.and x11_23 (.and x11_30 (.and (.not x11_32) (.cmp .eql x11_12 (.lit (.ofNat 32)))))))) (.lit (.ofNat 5)) (.lit (.negSucc 0)))))))) (.lit (.ofNat 0))
def x11_60 : X := .bin .quo .i64 (.iv 3) (.lit (.ofNat 8192))
def x11_61 : X := .cmp .eql x11_60 (.lit (.ofNat 1))
def x11_62 : X := .not x11_61
def x11_63 : X := .cmp .eql x11_60 (.lit (.ofNat 2))
def x11_65 : X := .not x11_63
def x11_66 : X := .cmp .eql x11_60 (.lit (.ofNat 4))
def x11_69 : X := .not x11_66
def x11_70 : X := .cmp .eql x11_60 (.lit (.ofNat 8))
def x11_74 : X := .not x11_70
def x11_75 : X := .cmp .eql x11_60 (.lit (.ofNat 16))
def x11_93 : X := .cmp .geq (.ite x11_61 (.lit (.ofNat 0)) (.ite (.and x11_62 x11_63) (.lit (.ofNat 1)) (.ite (.and x11_62 (.and x11_65 x11_66)) (.lit (.ofNat 2)) (.ite (.and x11_62 (.and x11_65 (.and x11_69 x11_70))) (.lit (.ofNat 3)) (.ite (.and x11_62 (.and x11_65 (.and x11_69 (.and x11_74 x11_75)))) (.lit (.ofNat 4)) (.ite (.and x11_62 (.and x11_65 (.and x11_69 (.and x11_74 (.and (.not x11_75) (.cmp .eql x11_60 (.lit (.ofNat 32)))))))) (.lit (.ofNat 5)) (.lit (.negSucc 0)))))))) (.lit (.ofNat 0))
def x11_102 : X := .or (.or (.not (.and x11_53 (.cmp .eql (.bin .rem .i64 (.iv 2) (.lit (.ofNat 16384))) (.lit (.ofNat 0))))) (.not (.and x11_93 (.cmp .eql (.bin .rem .i64 (.iv 3) (.lit (.ofNat 8192))) (.lit (.ofNat 0)))))) (.and (.bv 8) (.cmp .neq (.iv 3) (.lit (.ofNat 8192))))
def v11 : ST := .v (.c (.ci .i64 (.ite (.or x11_9 (.or x11_102 (.or (.or (.cmp .lss (.iv 1) (.lit (.ofNat 0))) (.cmp .gtr (.iv 1) (.lit (.ofNat 15)))) (.and (.not (.bv 7)) (.cmp .neq (.iv 1) (.lit (.ofNat 0))))))) (.ite x11_9 (.lit (.ofNat 6)) (.ite x11_102 (.lit (.ofNat 5)) (.lit (.ofNat 1)))) (.lit (.ofNat 0)))))
def ss11 : List SV := [.agg [.ci .i64 (.iv 0), .ci .i64 (.iv 1), .ci .i64 (.iv 2), .ci .i64 (.iv 3), .cb (.bv 4), .cb (.bv 5), .cb (.bv 6), .cb (.bv 7), .cb (.bv 8)]]
def ks11 : List LK := [.i .i64, .i .i64, .i .i64, .i .i64, .b, .b, .b, .b, .b]
theorem args11 : argTs Try.prog Try.f11.params.toList 0 = some (ss11, ks11) := by kernel_rfl
theorem tree11 : tree Try.prog 12 (sumsIn sums20) 300 11 ss11 bare 0 ⟨ks11.map LK.rg, []⟩ = .leaf v11 := by kernel_rfl
def sums11 : List Sm := ⟨11, ss11, ks11, v11⟩ :: sums20
theorem sok11 : SumsOk Try.prog sums11 := sums_cons mixed sok20 args11 tree11 (by kernel_rfl)
def x22_10 : X := .bin .shr .u8 (.iv 0) (.lit (.ofNat 2))
def v22 : ST := .v (.c (.ci .i64 (.ite (.cmp .lss (.iv 1) (.lit (.ofNat 15))) (.bin .mul .i64 (.iv 2) (.bin .or .i64 (.bin .shl .i64 (.iv 1) (.lit (.ofNat 8))) (.iv 0))) (.ite (.cmp .gtr x22_10 (.lit (.ofNat 20))) (.lit (.negSucc 0)) (.bin .shl .i64 (.bin .add .i64 (.bin .mul .i64 (.lit (.ofNat 2)) (.bin .and .u8 (.iv 0) (.lit (.ofNat 3)))) (.lit (.ofNat 1))) x22_10)))))
def ss22 : List SV := [.c (.ci .u8 (.iv 0)), .c (.ci .u8 (.iv 1)), .c (.ci .i64 (.iv 2))]
def ks22 : List LK := [.i .u8, .i .u8, .i .i64]
theorem args22 : argTs Try.prog Try.f22.params.toList 0 = some (ss22, ks22) := by kernel_rfl
theorem tree22 : tree Try.prog 12 (sumsIn sums11) 300 22 ss22 bare 0 ⟨ks22.map LK.rg, []⟩ = .leaf v22 := by kernel_rfl
def sums22 : List Sm := ⟨22, ss22, ks22, v22⟩ :: sums11
theorem sok22 : SumsOk Try.prog sums22 := sums_cons mixed sok11 args22 tree22 (by kernel_rfl)
def v12 : ST := .v (.c (.cb (.bl true)))
def ss12 : List SV := []
def ks12 : List LK := []
theorem args12 : argTs Try.prog Try.f12.params.toList 0 = some (ss12, ks12) := by kernel_rfl
theorem tree12 : tree Try.prog 12 (sumsIn sums22) 300 12 ss12 bare 0 ⟨ks12.map LK.rg, []⟩ = .leaf v12 := by kernel_rfl
def sums12 : List Sm := ⟨12, ss12, ks12, v12⟩ :: sums22
theorem sok12 : SumsOk Try.prog sums12 := sums_cons mixed sok22 args12 tree12 (by kernel_rfl)
def ss5 : List SV := [.agg [.str [.xt 640 (.lit 0) (.iv 0)], .ci .u8 (.iv 1), .ci .u8 (.iv 2), .ci .u16 (.iv 3)]]
def ks5 : List LK := [.i .i64, .i .u8, .i .u8, .i .u16]
def rs5 : List RowV := [(640, 0)]
theorem args5 : argRs Try.prog Try.f5.params.toList 0 0 = some (ss5, ks5, rs5) := by kernel_rfl
def T (K : Known) : Prop := (treeS Try.prog 0 (sumsIn sums12) 300 5 ss5 bare 6 K).prove 300 1000 K = true
def V (K : Known) : Prop := X.prove 20 60 K (.bl false) = true
def c_0 : X := .cmp .eql (.bin .rem .u8 (.iv 1) (.lit (.ofNat 16))) (.lit (.ofNat 0))
def c_1 : X := .cmp .gtr (.iv 0) (.lit (.ofNat 100))
def c_2 : X := .cmp .eql (.iv 2) (.lit (.ofNat 0))
def c_3 : X := .not (.cmp .eql (.bin .xor .u8 (.lit (.ofNat 78)) (.iv 2)) (.lit (.ofNat 78)))
def c_4 : X := .cmp .eql (.bin .rem .u8 (.iv 1) (.lit (.ofNat 16))) (.lit (.ofNat 1))
def c_5 : X := .not (.cmp .eql (.bin .xor .u8 (.lit (.ofNat 69)) (.iv 2)) (.lit (.ofNat 69)))
def c_6 : X := .cmp .eql (.bin .rem .u8 (.iv 1) (.lit (.ofNat 16))) (.lit (.ofNat 2))
def c_7 : X := .not (.cmp .eql (.bin .xor .u8 (.lit (.ofNat 83)) (.iv 2)) (.lit (.ofNat 83)))
def c_8 : X := .cmp .eql (.bin .rem .u8 (.iv 1) (.lit (.ofNat 16))) (.lit (.ofNat 3))
def c_9 : X := .not (.cmp .eql (.bin .xor .u8 (.lit (.ofNat 26)) (.iv 2)) (.lit (.ofNat 26)))
def c_10 : X := .cmp .eql (.bin .rem .u8 (.iv 1) (.lit (.ofNat 16))) (.lit (.ofNat 4))
def c_11 : X := .cmp .eql (.bin .rem .u8 (.iv 1) (.lit (.ofNat 16))) (.lit (.ofNat 5))
def c_12 : X := .cmp .eql (.bin .rem .u8 (.iv 1) (.lit (.ofNat 16))) (.lit (.ofNat 6))
def c_13 : X := .cmp .eql (.bin .rem .u8 (.iv 1) (.lit (.ofNat 16))) (.lit (.ofNat 7))
def c_14 : X := .cmp .eql (.bin .rem .u8 (.iv 1) (.lit (.ofNat 16))) (.lit (.ofNat 8))
def c_15 : X := .cmp .eql (.bin .rem .u8 (.iv 1) (.lit (.ofNat 16))) (.lit (.ofNat 9))
def c_16 : X := .cmp .eql (.bin .rem .u8 (.iv 1) (.lit (.ofNat 16))) (.lit (.ofNat 10))
def c_17 : X := .cmp .eql (.bin .rem .u8 (.iv 1) (.lit (.ofNat 16))) (.lit (.ofNat 11))
def c_18 : X := .cmp .eql (.bin .rem .u8 (.iv 1) (.lit (.ofNat 16))) (.lit (.ofNat 12))
def c_19 : X := .cmp .eql (.bin .rem .u8 (.iv 1) (.lit (.ofNat 16))) (.lit (.ofNat 13))
def c_20 : X := .cmp .eql (.bin .rem .u8 (.iv 1) (.lit (.ofNat 16))) (.lit (.ofNat 14))
def c_21 : X := .cmp .eql (.bin .rem .u8 (.iv 1) (.lit (.ofNat 16))) (.lit (.ofNat 15))
def K_0 : Known := addRows rs5 ⟨ks5.map LK.rg, []⟩
def K_1 : Known := K_0.assume c_0 true
def K_2 : Known := K_1.assume c_1 true
def K_3 : Known := K_2.assume c_2 true
def K_4 : Known := K_2.assume c_2 false
def K_5 : Known := K_4.assume c_3 true
def K_6 : Known := K_1.assume c_1 false
def K_7 : Known := K_6.assume c_2 true
def K_8 : Known := K_6.assume c_2 false
def K_9 : Known := K_8.assume c_3 true
def K_10 : Known := K_0.assume c_0 false
def K_11 : Known := K_10.assume c_4 true
def K_12 : Known := K_11.assume c_1 true
def K_13 : Known := K_12.assume c_2 true
def K_14 : Known := K_12.assume c_2 false
def K_15 : Known := K_14.assume c_5 true
def K_16 : Known := K_11.assume c_1 false
def K_17 : Known := K_16.assume c_2 true
def K_18 : Known := K_16.assume c_2 false
def K_19 : Known := K_18.assume c_5 true
def K_20 : Known := K_10.assume c_4 false
def K_21 : Known := K_20.assume c_6 true
def K_22 : Known := K_21.assume c_1 true
def K_23 : Known := K_22.assume c_2 true
def K_24 : Known := K_22.assume c_2 false
def K_25 : Known := K_24.assume c_7 true
def K_26 : Known := K_21.assume c_1 false
def K_27 : Known := K_26.assume c_2 true
def K_28 : Known := K_26.assume c_2 false
def K_29 : Known := K_28.assume c_7 true
def K_30 : Known := K_20.assume c_6 false
def K_31 : Known := K_30.assume c_8 true
def K_32 : Known := K_31.assume c_1 true
def K_33 : Known := K_32.assume c_2 true
def K_34 : Known := K_32.assume c_2 false
def K_35 : Known := K_34.assume c_9 true
def K_36 : Known := K_31.assume c_1 false
def K_37 : Known := K_36.assume c_2 true
def K_38 : Known := K_36.assume c_2 false
def K_39 : Known := K_38.assume c_9 true
def K_40 : Known := K_30.assume c_8 false
def K_41 : Known := K_40.assume c_10 true
def K_42 : Known := K_41.assume c_1 true
def K_43 : Known := K_42.assume c_2 true
def K_44 : Known := K_42.assume c_2 false
def K_45 : Known := K_44.assume c_3 true
def K_46 : Known := K_41.assume c_1 false
def K_47 : Known := K_46.assume c_2 true
def K_48 : Known := K_46.assume c_2 false
def K_49 : Known := K_48.assume c_3 true
def K_50 : Known := K_40.assume c_10 false
def K_51 : Known := K_50.assume c_11 true
def K_52 : Known := K_51.assume c_1 true
def K_53 : Known := K_52.assume c_2 true
def K_54 : Known := K_52.assume c_2 false
def K_55 : Known := K_54.assume c_5 true
def K_56 : Known := K_51.assume c_1 false
def K_57 : Known := K_56.assume c_2 true
def K_58 : Known := K_56.assume c_2 false
def K_59 : Known := K_58.assume c_5 true
def K_60 : Known := K_50.assume c_11 false
def K_61 : Known := K_60.assume c_12 true
def K_62 : Known := K_61.assume c_1 true
def K_63 : Known := K_62.assume c_2 true
def K_64 : Known := K_62.assume c_2 false
def K_65 : Known := K_64.assume c_7 true
def K_66 : Known := K_61.assume c_1 false
def K_67 : Known := K_66.assume c_2 true
def K_68 : Known := K_66.assume c_2 false
def K_69 : Known := K_68.assume c_7 true
def K_70 : Known := K_60.assume c_12 false
def K_71 : Known := K_70.assume c_13 true
def K_72 : Known := K_71.assume c_1 true
def K_73 : Known := K_72.assume c_2 true
def K_74 : Known := K_72.assume c_2 false
def K_75 : Known := K_74.assume c_9 true
def K_76 : Known := K_71.assume c_1 false
def K_77 : Known := K_76.assume c_2 true
def K_78 : Known := K_76.assume c_2 false
def K_79 : Known := K_78.assume c_9 true
def K_80 : Known := K_70.assume c_13 false
def K_81 : Known := K_80.assume c_14 true
def K_82 : Known := K_81.assume c_1 true
def K_83 : Known := K_82.assume c_2 true
def K_84 : Known := K_82.assume c_2 false
def K_85 : Known := K_84.assume c_3 true
def K_86 : Known := K_81.assume c_1 false
def K_87 : Known := K_86.assume c_2 true
def K_88 : Known := K_86.assume c_2 false
def K_89 : Known := K_88.assume c_3 true
def K_90 : Known := K_80.assume c_14 false
def K_91 : Known := K_90.assume c_15 true
def K_92 : Known := K_91.assume c_1 true
def K_93 : Known := K_92.assume c_2 true
def K_94 : Known := K_92.assume c_2 false
def K_95 : Known := K_94.assume c_5 true
def K_96 : Known := K_91.assume c_1 false
def K_97 : Known := K_96.assume c_2 true
def K_98 : Known := K_96.assume c_2 false
def K_99 : Known := K_98.assume c_5 true
def K_100 : Known := K_90.assume c_15 false
def K_101 : Known := K_100.assume c_16 true
def K_102 : Known := K_101.assume c_1 true
def K_103 : Known := K_102.assume c_2 true
def K_104 : Known := K_102.assume c_2 false
def K_105 : Known := K_104.assume c_7 true
def K_106 : Known := K_101.assume c_1 false
def K_107 : Known := K_106.assume c_2 true
def K_108 : Known := K_106.assume c_2 false
def K_109 : Known := K_108.assume c_7 true
def K_110 : Known := K_100.assume c_16 false
def K_111 : Known := K_110.assume c_17 true
def K_112 : Known := K_111.assume c_1 true
def K_113 : Known := K_112.assume c_2 true
def K_114 : Known := K_112.assume c_2 false
def K_115 : Known := K_114.assume c_9 true
def K_116 : Known := K_111.assume c_1 false
def K_117 : Known := K_116.assume c_2 true
def K_118 : Known := K_116.assume c_2 false
def K_119 : Known := K_118.assume c_9 true
def K_120 : Known := K_110.assume c_17 false
def K_121 : Known := K_120.assume c_18 true
def K_122 : Known := K_121.assume c_1 true
def K_123 : Known := K_122.assume c_2 true
def K_124 : Known := K_122.assume c_2 false
def K_125 : Known := K_124.assume c_3 true
def K_126 : Known := K_121.assume c_1 false
def K_127 : Known := K_126.assume c_2 true
def K_128 : Known := K_126.assume c_2 false
def K_129 : Known := K_128.assume c_3 true
def K_130 : Known := K_120.assume c_18 false
def K_131 : Known := K_130.assume c_19 true
def K_132 : Known := K_131.assume c_1 true
def K_133 : Known := K_132.assume c_2 true
def K_134 : Known := K_132.assume c_2 false
def K_135 : Known := K_134.assume c_5 true
def K_136 : Known := K_131.assume c_1 false
def K_137 : Known := K_136.assume c_2 true
def K_138 : Known := K_136.assume c_2 false
def K_139 : Known := K_138.assume c_5 true
def K_140 : Known := K_130.assume c_19 false
def K_141 : Known := K_140.assume c_20 true
def K_142 : Known := K_141.assume c_1 true
def K_143 : Known := K_142.assume c_2 true
def K_144 : Known := K_142.assume c_2 false
def K_145 : Known := K_144.assume c_7 true
def K_146 : Known := K_141.assume c_1 false
def K_147 : Known := K_146.assume c_2 true
def K_148 : Known := K_146.assume c_2 false
def K_149 : Known := K_148.assume c_7 true
def K_150 : Known := K_140.assume c_20 false
def K_151 : Known := K_150.assume c_21 true
def K_152 : Known := K_151.assume c_1 true
def K_153 : Known := K_152.assume c_2 true
def K_154 : Known := K_152.assume c_2 false
def K_155 : Known := K_154.assume c_9 true
def K_156 : Known := K_151.assume c_1 false
def K_157 : Known := K_156.assume c_2 true
def K_158 : Known := K_156.assume c_2 false
def K_159 : Known := K_158.assume c_9 true
theorem leaf_3 : T K_3 := by unfold T; kernel_rfl
theorem leaf_5 : T K_5 := by unfold T; kernel_rfl
theorem leaf_7 : T K_7 := by unfold T; kernel_rfl
theorem leaf_9 : T K_9 := by unfold T; kernel_rfl
theorem leaf_13 : T K_13 := by unfold T; kernel_rfl
theorem leaf_15 : T K_15 := by unfold T; kernel_rfl
theorem leaf_17 : T K_17 := by unfold T; kernel_rfl
theorem leaf_19 : T K_19 := by unfold T; kernel_rfl
theorem leaf_23 : T K_23 := by unfold T; kernel_rfl
theorem leaf_25 : T K_25 := by unfold T; kernel_rfl
theorem leaf_27 : T K_27 := by unfold T; kernel_rfl
theorem leaf_29 : T K_29 := by unfold T; kernel_rfl
theorem leaf_33 : T K_33 := by unfold T; kernel_rfl
theorem leaf_35 : T K_35 := by unfold T; kernel_rfl
theorem leaf_37 : T K_37 := by unfold T; kernel_rfl
theorem leaf_39 : T K_39 := by unfold T; kernel_rfl
theorem leaf_43 : T K_43 := by unfold T; kernel_rfl
theorem leaf_45 : T K_45 := by unfold T; kernel_rfl
theorem leaf_47 : T K_47 := by unfold T; kernel_rfl
theorem leaf_49 : T K_49 := by unfold T; kernel_rfl
theorem leaf_53 : T K_53 := by unfold T; kernel_rfl
theorem leaf_55 : T K_55 := by unfold T; kernel_rfl
theorem leaf_57 : T K_57 := by unfold T; kernel_rfl
theorem leaf_59 : T K_59 := by unfold T; kernel_rfl
theorem leaf_63 : T K_63 := by unfold T; kernel_rfl
theorem leaf_65 : T K_65 := by unfold T; kernel_rfl
theorem leaf_67 : T K_67 := by unfold T; kernel_rfl
theorem leaf_69 : T K_69 := by unfold T; kernel_rfl
theorem leaf_73 : T K_73 := by unfold T; kernel_rfl
theorem leaf_75 : T K_75 := by unfold T; kernel_rfl
theorem leaf_77 : T K_77 := by unfold T; kernel_rfl
theorem leaf_79 : T K_79 := by unfold T; kernel_rfl
theorem leaf_83 : T K_83 := by unfold T; kernel_rfl
theorem leaf_85 : T K_85 := by unfold T; kernel_rfl
theorem leaf_87 : T K_87 := by unfold T; kernel_rfl
theorem leaf_89 : T K_89 := by unfold T; kernel_rfl
theorem leaf_93 : T K_93 := by unfold T; kernel_rfl
theorem leaf_95 : T K_95 := by unfold T; kernel_rfl
theorem leaf_97 : T K_97 := by unfold T; kernel_rfl
theorem leaf_99 : T K_99 := by unfold T; kernel_rfl
theorem leaf_103 : T K_103 := by unfold T; kernel_rfl
theorem leaf_105 : T K_105 := by unfold T; kernel_rfl
theorem leaf_107 : T K_107 := by unfold T; kernel_rfl
theorem leaf_109 : T K_109 := by unfold T; kernel_rfl
theorem leaf_113 : T K_113 := by unfold T; kernel_rfl
theorem leaf_115 : T K_115 := by unfold T; kernel_rfl
theorem leaf_117 : T K_117 := by unfold T; kernel_rfl
theorem leaf_119 : T K_119 := by unfold T; kernel_rfl
theorem leaf_123 : T K_123 := by unfold T; kernel_rfl
theorem leaf_125 : T K_125 := by unfold T; kernel_rfl
theorem leaf_127 : T K_127 := by unfold T; kernel_rfl
theorem leaf_129 : T K_129 := by unfold T; kernel_rfl
theorem leaf_133 : T K_133 := by unfold T; kernel_rfl
theorem leaf_135 : T K_135 := by unfold T; kernel_rfl
theorem leaf_137 : T K_137 := by unfold T; kernel_rfl
theorem leaf_139 : T K_139 := by unfold T; kernel_rfl
theorem leaf_143 : T K_143 := by unfold T; kernel_rfl
theorem leaf_145 : T K_145 := by unfold T; kernel_rfl
theorem leaf_147 : T K_147 := by unfold T; kernel_rfl
theorem leaf_149 : T K_149 := by unfold T; kernel_rfl
theorem leaf_153 : T K_153 := by unfold T; kernel_rfl
theorem leaf_155 : T K_155 := by unfold T; kernel_rfl
theorem leaf_157 : T K_157 := by unfold T; kernel_rfl
theorem leaf_159 : T K_159 := by unfold T; kernel_rfl
theorem know_4 : X.proveE 300 1000 K_4 c_3 = true := by kernel_rfl
theorem know_8 : X.proveE 300 1000 K_8 c_3 = true := by kernel_rfl
theorem know_14 : X.proveE 300 1000 K_14 c_5 = true := by kernel_rfl
theorem know_18 : X.proveE 300 1000 K_18 c_5 = true := by kernel_rfl
theorem know_24 : X.proveE 300 1000 K_24 c_7 = true := by kernel_rfl
theorem know_28 : X.proveE 300 1000 K_28 c_7 = true := by kernel_rfl
theorem know_34 : X.proveE 300 1000 K_34 c_9 = true := by kernel_rfl
theorem know_38 : X.proveE 300 1000 K_38 c_9 = true := by kernel_rfl
theorem know_44 : X.proveE 300 1000 K_44 c_3 = true := by kernel_rfl
theorem know_48 : X.proveE 300 1000 K_48 c_3 = true := by kernel_rfl
theorem know_54 : X.proveE 300 1000 K_54 c_5 = true := by kernel_rfl
theorem know_58 : X.proveE 300 1000 K_58 c_5 = true := by kernel_rfl
theorem know_64 : X.proveE 300 1000 K_64 c_7 = true := by kernel_rfl
theorem know_68 : X.proveE 300 1000 K_68 c_7 = true := by kernel_rfl
theorem know_74 : X.proveE 300 1000 K_74 c_9 = true := by kernel_rfl
theorem know_78 : X.proveE 300 1000 K_78 c_9 = true := by kernel_rfl
theorem know_84 : X.proveE 300 1000 K_84 c_3 = true := by kernel_rfl
theorem know_88 : X.proveE 300 1000 K_88 c_3 = true := by kernel_rfl
theorem know_94 : X.proveE 300 1000 K_94 c_5 = true := by kernel_rfl
theorem know_98 : X.proveE 300 1000 K_98 c_5 = true := by kernel_rfl
theorem know_104 : X.proveE 300 1000 K_104 c_7 = true := by kernel_rfl
theorem know_108 : X.proveE 300 1000 K_108 c_7 = true := by kernel_rfl
theorem know_114 : X.proveE 300 1000 K_114 c_9 = true := by kernel_rfl
theorem know_118 : X.proveE 300 1000 K_118 c_9 = true := by kernel_rfl
theorem know_124 : X.proveE 300 1000 K_124 c_3 = true := by kernel_rfl
theorem know_128 : X.proveE 300 1000 K_128 c_3 = true := by kernel_rfl
theorem know_134 : X.proveE 300 1000 K_134 c_5 = true := by kernel_rfl
theorem know_138 : X.proveE 300 1000 K_138 c_5 = true := by kernel_rfl
theorem know_144 : X.proveE 300 1000 K_144 c_7 = true := by kernel_rfl
theorem know_148 : X.proveE 300 1000 K_148 c_7 = true := by kernel_rfl
theorem know_150 : X.proveE 300 1000 K_150 c_21 = true := by kernel_rfl
theorem know_154 : X.proveE 300 1000 K_154 c_9 = true := by kernel_rfl
theorem know_158 : X.proveE 300 1000 K_158 c_9 = true := by kernel_rfl
theorem plan5 : ∀ ρ, (addRows rs5 ⟨ks5.map LK.rg, []⟩).ok ρ → ∃ K d, K.ok ρ ∧ (treeS Try.prog 0 (sumsIn sums12) 300 5 ss5 bare d K).prove 300 1000 K = true := fun _ h => split_on c_0 h (fun (h : K_1.ok _) => split_on c_1 h (fun (h : K_2.ok _) => split_on c_2 h (fun (h : K_3.ok _) => ⟨K_3, 6, h, leaf_3⟩) (fun (h : K_4.ok _) => split_know c_3 h know_4 (fun (h : K_5.ok _) => ⟨K_5, 6, h, leaf_5⟩))) (fun (h : K_6.ok _) => split_on c_2 h (fun (h : K_7.ok _) => ⟨K_7, 6, h, leaf_7⟩) (fun (h : K_8.ok _) => split_know c_3 h know_8 (fun (h : K_9.ok _) => ⟨K_9, 6, h, leaf_9⟩)))) (fun (h : K_10.ok _) => split_on c_4 h (fun (h : K_11.ok _) => split_on c_1 h (fun (h : K_12.ok _) => split_on c_2 h (fun (h : K_13.ok _) => ⟨K_13, 6, h, leaf_13⟩) (fun (h : K_14.ok _) => split_know c_5 h know_14 (fun (h : K_15.ok _) => ⟨K_15, 6, h, leaf_15⟩))) (fun (h : K_16.ok _) => split_on c_2 h (fun (h : K_17.ok _) => ⟨K_17, 6, h, leaf_17⟩) (fun (h : K_18.ok _) => split_know c_5 h know_18 (fun (h : K_19.ok _) => ⟨K_19, 6, h, leaf_19⟩)))) (fun (h : K_20.ok _) => split_on c_6 h (fun (h : K_21.ok _) => split_on c_1 h (fun (h : K_22.ok _) => split_on c_2 h (fun (h : K_23.ok _) => ⟨K_23, 6, h, leaf_23⟩) (fun (h : K_24.ok _) => split_know c_7 h know_24 (fun (h : K_25.ok _) => ⟨K_25, 6, h, leaf_25⟩))) (fun (h : K_26.ok _) => split_on c_2 h (fun (h : K_27.ok _) => ⟨K_27, 6, h, leaf_27⟩) (fun (h : K_28.ok _) => split_know c_7 h know_28 (fun (h : K_29.ok _) => ⟨K_29, 6, h, leaf_29⟩)))) (fun (h : K_30.ok _) => split_on c_8 h (fun (h : K_31.ok _) => split_on c_1 h (fun (h : K_32.ok _) => split_on c_2 h (fun (h : K_33.ok _) => ⟨K_33, 6, h, leaf_33⟩) (fun (h : K_34.ok _) => split_know c_9 h know_34 (fun (h : K_35.ok _) => ⟨K_35, 6, h, leaf_35⟩))) (fun (h : K_36.ok _) => split_on c_2 h (fun (h : K_37.ok _) => ⟨K_37, 6, h, leaf_37⟩) (fun (h : K_38.ok _) => split_know c_9 h know_38 (fun (h : K_39.ok _) => ⟨K_39, 6, h, leaf_39⟩)))) (fun (h : K_40.ok _) => split_on c_10 h (fun (h : K_41.ok _) => split_on c_1 h (fun (h : K_42.ok _) => split_on c_2 h (fun (h : K_43.ok _) => ⟨K_43, 6, h, leaf_43⟩) (fun (h : K_44.ok _) => split_know c_3 h know_44 (fun (h : K_45.ok _) => ⟨K_45, 6, h, leaf_45⟩))) (fun (h : K_46.ok _) => split_on c_2 h (fun (h : K_47.ok _) => ⟨K_47, 6, h, leaf_47⟩) (fun (h : K_48.ok _) => split_know c_3 h know_48 (fun (h : K_49.ok _) => ⟨K_49, 6, h, leaf_49⟩)))) (fun (h : K_50.ok _) => split_on c_11 h (fun (h : K_51.ok _) => split_on c_1 h (fun (h : K_52.ok _) => split_on c_2 h (fun (h : K_53.ok _) => ⟨K_53, 6, h, leaf_53⟩) (fun (h : K_54.ok _) => split_know c_5 h know_54 (fun (h : K_55.ok _) => ⟨K_55, 6, h, leaf_55⟩))) (fun (h : K_56.ok _) => split_on c_2 h (fun (h : K_57.ok _) => ⟨K_57, 6, h, leaf_57⟩) (fun (h : K_58.ok _) => split_know c_5 h know_58 (fun (h : K_59.ok _) => ⟨K_59, 6, h, leaf_59⟩)))) (fun (h : K_60.ok _) => split_on c_12 h (fun (h : K_61.ok _) => split_on c_1 h (fun (h : K_62.ok _) => split_on c_2 h (fun (h : K_63.ok _) => ⟨K_63, 6, h, leaf_63⟩) (fun (h : K_64.ok _) => split_know c_7 h know_64 (fun (h : K_65.ok _) => ⟨K_65, 6, h, leaf_65⟩))) (fun (h : K_66.ok _) => split_on c_2 h (fun (h : K_67.ok _) => ⟨K_67, 6, h, leaf_67⟩) (fun (h : K_68.ok _) => split_know c_7 h know_68 (fun (h : K_69.ok _) => ⟨K_69, 6, h, leaf_69⟩)))) (fun (h : K_70.ok _) => split_on c_13 h (fun (h : K_71.ok _) => split_on c_1 h (fun (h : K_72.ok _) => split_on c_2 h (fun (h : K_73.ok _) => ⟨K_73, 6, h, leaf_73⟩) (fun (h : K_74.ok _) => split_know c_9 h know_74 (fun (h : K_75.ok _) => ⟨K_75, 6, h, leaf_75⟩))) (fun (h : K_76.ok _) => split_on c_2 h (fun (h : K_77.ok _) => ⟨K_77, 6, h, leaf_77⟩) (fun (h : K_78.ok _) => split_know c_9 h know_78 (fun (h : K_79.ok _) => ⟨K_79, 6, h, leaf_79⟩)))) (fun (h : K_80.ok _) => split_on c_14 h (fun (h : K_81.ok _) => split_on c_1 h (fun (h : K_82.ok _) => split_on c_2 h (fun (h : K_83.ok _) => ⟨K_83, 6, h, leaf_83⟩) (fun (h : K_84.ok _) => split_know c_3 h know_84 (fun (h : K_85.ok _) => ⟨K_85, 6, h, leaf_85⟩))) (fun (h : K_86.ok _) => split_on c_2 h (fun (h : K_87.ok _) => ⟨K_87, 6, h, leaf_87⟩) (fun (h : K_88.ok _) => split_know c_3 h know_88 (fun (h : K_89.ok _) => ⟨K_89, 6, h, leaf_89⟩)))) (fun (h : K_90.ok _) => split_on c_15 h (fun (h : K_91.ok _) => split_on c_1 h (fun (h : K_92.ok _) => split_on c_2 h (fun (h : K_93.ok _) => ⟨K_93, 6, h, leaf_93⟩) (fun (h : K_94.ok _) => split_know c_5 h know_94 (fun (h : K_95.ok _) => ⟨K_95, 6, h, leaf_95⟩))) (fun (h : K_96.ok _) => split_on c_2 h (fun (h : K_97.ok _) => ⟨K_97, 6, h, leaf_97⟩) (fun (h : K_98.ok _) => split_know c_5 h know_98 (fun (h : K_99.ok _) => ⟨K_99, 6, h, leaf_99⟩)))) (fun (h : K_100.ok _) => split_on c_16 h (fun (h : K_101.ok _) => split_on c_1 h (fun (h : K_102.ok _) => split_on c_2 h (fun (h : K_103.ok _) => ⟨K_103, 6, h, leaf_103⟩) (fun (h : K_104.ok _) => split_know c_7 h know_104 (fun (h : K_105.ok _) => ⟨K_105, 6, h, leaf_105⟩))) (fun (h : K_106.ok _) => split_on c_2 h (fun (h : K_107.ok _) => ⟨K_107, 6, h, leaf_107⟩) (fun (h : K_108.ok _) => split_know c_7 h know_108 (fun (h : K_109.ok _) => ⟨K_109, 6, h, leaf_109⟩)))) (fun (h : K_110.ok _) => split_on c_17 h (fun (h : K_111.ok _) => split_on c_1 h (fun (h : K_112.ok _) => split_on c_2 h (fun (h : K_113.ok _) => ⟨K_113, 6, h, leaf_113⟩) (fun (h : K_114.ok _) => split_know c_9 h know_114 (fun (h : K_115.ok _) => ⟨K_115, 6, h, leaf_115⟩))) (fun (h : K_116.ok _) => split_on c_2 h (fun (h : K_117.ok _) => ⟨K_117, 6, h, leaf_117⟩) (fun (h : K_118.ok _) => split_know c_9 h know_118 (fun (h : K_119.ok _) => ⟨K_119, 6, h, leaf_119⟩)))) (fun (h : K_120.ok _) => split_on c_18 h (fun (h : K_121.ok _) => split_on c_1 h (fun (h : K_122.ok _) => split_on c_2 h (fun (h : K_123.ok _) => ⟨K_123, 6, h, leaf_123⟩) (fun (h : K_124.ok _) => split_know c_3 h know_124 (fun (h : K_125.ok _) => ⟨K_125, 6, h, leaf_125⟩))) (fun (h : K_126.ok _) => split_on c_2 h (fun (h : K_127.ok _) => ⟨K_127, 6, h, leaf_127⟩) (fun (h : K_128.ok _) => split_know c_3 h know_128 (fun (h : K_129.ok _) => ⟨K_129, 6, h, leaf_129⟩)))) (fun (h : K_130.ok _) => split_on c_19 h (fun (h : K_131.ok _) => split_on c_1 h (fun (h : K_132.ok _) => split_on c_2 h (fun (h : K_133.ok _) => ⟨K_133, 6, h, leaf_133⟩) (fun (h : K_134.ok _) => split_know c_5 h know_134 (fun (h : K_135.ok _) => ⟨K_135, 6, h, leaf_135⟩))) (fun (h : K_136.ok _) => split_on c_2 h (fun (h : K_137.ok _) => ⟨K_137, 6, h, leaf_137⟩) (fun (h : K_138.ok _) => split_know c_5 h know_138 (fun (h : K_139.ok _) => ⟨K_139, 6, h, leaf_139⟩)))) (fun (h : K_140.ok _) => split_on c_20 h (fun (h : K_141.ok _) => split_on c_1 h (fun (h : K_142.ok _) => split_on c_2 h (fun (h : K_143.ok _) => ⟨K_143, 6, h, leaf_143⟩) (fun (h : K_144.ok _) => split_know c_7 h know_144 (fun (h : K_145.ok _) => ⟨K_145, 6, h, leaf_145⟩))) (fun (h : K_146.ok _) => split_on c_2 h (fun (h : K_147.ok _) => ⟨K_147, 6, h, leaf_147⟩) (fun (h : K_148.ok _) => split_know c_7 h know_148 (fun (h : K_149.ok _) => ⟨K_149, 6, h, leaf_149⟩)))) (fun (h : K_150.ok _) => split_know c_21 h know_150 (fun (h : K_151.ok _) => split_on c_1 h (fun (h : K_152.ok _) => split_on c_2 h (fun (h : K_153.ok _) => ⟨K_153, 6, h, leaf_153⟩) (fun (h : K_154.ok _) => split_know c_9 h know_154 (fun (h : K_155.ok _) => ⟨K_155, 6, h, leaf_155⟩))) (fun (h : K_156.ok _) => split_on c_2 h (fun (h : K_157.ok _) => ⟨K_157, 6, h, leaf_157⟩) (fun (h : K_158.ok _) => split_know c_9 h know_158 (fun (h : K_159.ok _) => ⟨K_159, 6, h, leaf_159⟩)))))))))))))))))))

def zeros : Env := ⟨fun _ => 0, fun _ => false, fun _ _ => 0, fun _ _ => true, fun _ => .bool false, fun _ => ⟨⟨0, 0, none⟩, .cells #[] 0 (0, 0)⟩⟩
set_option maxRecDepth 100000 in
theorem lifted5 (os : Os) (started : os.Started) (H : Type) (enc : TypeId × Value → H) :
    ReturnsInHanded {} Try.checked os 5 .any (Rows.headerMagicSpec.pre6 enc Try.prog Try.f5 Rows.headerMagicRow.domain false) (Rows.headerMagicSpec.post enc Try.prog Try.f5 false true false false) := by
  refine returnsInHanded_of_change (C := Try.checked) own started (by kernel_rfl) Try.func5
    (ChangeSpec.witness6 (enc := enc) (C := Try.checked) false ⟨#[], (ss5.map (SV.den zeros fun _ => 0)).toArray, []⟩ 8 (by kernel_rfl) (by kernel_rfl) (by kernel_rfl) (by kernel_rfl)) ?_
  intro W base args ds gs before hval0 hW _ _
  have hval : ∀ (j : Nat) t v, Try.f5.params[j]? = some t → args[j]? = some v → Value.okWide Try.prog W .any base t v := hval0
  have hW' := hW
  obtain ⟨p, q, hA0, hV, rfl, _, _⟩ := hW
  have hA : DataW.TrodAll enc Try.prog W 0 (fun _ => true) true Try.f5.params.toList args.toList ds p := hA0
  obtain ⟨rfl, rfl⟩ := trodVars_none hV
  have hA1 := hA
  rw [Try.params5] at hA1
  obtain ⟨v0, d0, _, rfl, _⟩ := trodAll_one hA1
  refine (rows_planS (r := .any) (base := base) mixed sok12 args5 plan5 (fun j t v ht hv => hval j t v (by simpa using ht) hv) hA).mono fun e W' ⟨⟨v, he, hv⟩, hb⟩ => ?_
  subst hv
  subst he
  exact ⟨_, rfl, law_post (tb := 4) laid rfl (by rw [Try.params5]; intro t ht; simp at ht; first | (subst ht; exact ⟨by kernel_rfl, of_decide_eq_true (by kernel_rfl)⟩) | (rcases ht with rfl | rfl <;> exact ⟨by kernel_rfl, of_decide_eq_true (by kernel_rfl)⟩) | (rcases ht with rfl | rfl | rfl <;> exact ⟨by kernel_rfl, of_decide_eq_true (by kernel_rfl)⟩)) rfl Try.underlying4 hW' hA hb ⟨rfl, rfl, rfl⟩⟩

theorem headerMagic_holds : Rows.HeaderMagicSaid :=
  OpenClaim.holds_of_wide 5 Try.f5 rfl rfl rfl rfl rfl rfl rfl ⟨rfl, rfl, rfl, rfl, rfl⟩ rfl rfl rfl rfl rfl (by kernel_rfl) Try.func5 (by kernel_rfl)
    (of_decide_eq_true (by kernel_rfl)) (by unfold Func.isWrapper; first | (rw [if_pos (by decide +kernel)]; kernel_rfl) | (rw [if_neg (by decide +kernel)]; exact ⟨rfl, rfl⟩))
    (fun os started H enc _ => lifted5 os started H enc)
#print axioms headerMagic_holds
end Go.Proofs.Ytolennlpkpkhhaa
