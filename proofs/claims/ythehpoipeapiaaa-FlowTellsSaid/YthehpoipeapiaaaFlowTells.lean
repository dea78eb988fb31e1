/- For every input FlowTells answers true. -/
import Derived.Test.YthehpoipeapiaaaRows
import Derived.Test.YthehpoipeapiaaaSx21
namespace Go.Proofs.Ythehpoipeapiaaa
open Go.ChangeShapes Go.WideShapes Go.ChangeAt Go.RowKit Go.Sx

theorem own : ownKnob Try.prog.godebug = none := by kernel_rfl
theorem laid : laidOutB Try.prog = true := by kernel_rfl
theorem mixed : Try.prog.follows .mixedOrders = true := by kernel_rfl

def v17 : ST := .v (.c (.cb (.and (.and (.cmp .geq (.iv 0) (.lit (.ofNat 0))) (.cmp .leq (.iv 0) (.lit (.ofNat 2)))) (.cmp .geq (.iv 1) (.lit (.ofNat 0))))))
def ss17 : List SV := [.c (.ci .i64 (.iv 0)), .c (.ci .i64 (.iv 1))]
def ks17 : List LK := [.i .i64, .i .i64]
theorem args17 : argTs Try.prog Try.f17.params.toList 0 = some (ss17, ks17) := by kernel_rfl
theorem tree17 : tree Try.prog 12 (sumsIn []) 300 17 ss17 bare 0 ⟨ks17.map LK.rg, []⟩ = .leaf v17 := by kernel_rfl
def sums17 : List Sm := ⟨17, ss17, ks17, v17⟩ :: []
theorem sok17 : SumsOk Try.prog sums17 := sums_cons mixed sums_nil args17 tree17 (by kernel_rfl)
def x9_1 : X := .not (.bv 0)
def x9_23 : X := .and x9_1 (.and (.cmp .eql (.iv 1) (.lit (.ofNat 0))) (.and (.cmp .eql (.iv 2) (.lit (.ofNat 0))) (.and (.cmp .eql (.iv 3) (.lit (.ofNat 0))) (.and (.cmp .eql (.iv 4) (.lit (.ofNat 0))) (.and (.cmp .eql (.iv 5) (.lit (.ofNat 0))) (.and (.cmp .eql (.iv 6) (.lit (.ofNat 0))) (.cmp .eql (.iv 7) (.lit (.ofNat 0)))))))))
def x9_24 : X := .not x9_23
def x9_42 : X := .or (.cmp .lss (.iv 4) (.lit (.ofNat 0))) (.and (.cmp .gtr (.iv 4) (.lit (.ofNat 0))) (.cmp .leq (.iv 4) (.iv 3)))
def x9_48 : X := .or (.cmp .lss (.iv 5) (.lit (.ofNat 0))) (.and (.cmp .gtr (.iv 5) (.lit (.ofNat 0))) (.cmp .leq (.iv 5) (.iv 3)))
def x9_54 : X := .or (.cmp .lss (.iv 6) (.lit (.ofNat 0))) (.and (.cmp .gtr (.iv 6) (.lit (.ofNat 0))) (.cmp .leq (.iv 6) (.iv 3)))
def v9 : ST := .v (.c (.ci .i64 (.ite (.and x9_1 (.or x9_24 x9_23)) (.ite x9_24 (.lit (.ofNat 1)) (.lit (.ofNat 0))) (.ite (.or (.not (.and (.and (.cmp .geq (.iv 1) (.lit (.ofNat 0))) (.cmp .leq (.iv 1) (.lit (.ofNat 2)))) (.cmp .geq (.iv 2) (.lit (.ofNat 0))))) (.cmp .lss (.iv 3) (.lit (.ofNat 0)))) (.lit (.ofNat 1)) (.ite (.or x9_42 (.and (.not x9_42) (.or x9_48 (.and (.not x9_48) (.or x9_54 (.and (.not x9_54) (.or (.cmp .lss (.iv 7) (.lit (.ofNat 0))) (.and (.cmp .gtr (.iv 7) (.lit (.ofNat 0))) (.cmp .leq (.iv 7) (.iv 3)))))))))) (.lit (.ofNat 1)) (.lit (.ofNat 0)))))))
def ss9 : List SV := [.agg [.cb (.bv 0), .ci .i64 (.iv 1), .ci .i64 (.iv 2), .ci .i64 (.iv 3), .ci .i64 (.iv 4), .ci .i64 (.iv 5), .ci .i64 (.iv 6), .ci .i64 (.iv 7)]]
def ks9 : List LK := [.b, .i .i64, .i .i64, .i .i64, .i .i64, .i .i64, .i .i64, .i .i64]
theorem args9 : argTs Try.prog Try.f9.params.toList 0 = some (ss9, ks9) := by kernel_rfl
theorem tree9 : tree Try.prog 12 (sumsIn sums17) 300 9 ss9 bare 0 ⟨ks9.map LK.rg, []⟩ = .leaf v9 := by kernel_rfl
def sums9 : List Sm := ⟨9, ss9, ks9, v9⟩ :: sums17
theorem sok9 : SumsOk Try.prog sums9 := sums_cons mixed sok17 args9 tree9 (by kernel_rfl)
def v18 : ST := .v (.c (.cb (.and (.cmp .geq (.iv 0) (.lit (.ofNat 0))) (.cmp .leq (.iv 0) (.lit (.ofNat 1099511627776))))))
def ss18 : List SV := [.c (.ci .i64 (.iv 0))]
def ks18 : List LK := [.i .i64]
theorem args18 : argTs Try.prog Try.f18.params.toList 0 = some (ss18, ks18) := by kernel_rfl
theorem tree18 : tree Try.prog 12 (sumsIn sums9) 300 18 ss18 bare 0 ⟨ks18.map LK.rg, []⟩ = .leaf v18 := by kernel_rfl
def sums18 : List Sm := ⟨18, ss18, ks18, v18⟩ :: sums9
theorem sok18 : SumsOk Try.prog sums18 := sums_cons mixed sok9 args18 tree18 (by kernel_rfl)
def x7_1 : X := .not (.bv 0)
def x7_23 : X := .and x7_1 (.and (.cmp .eql (.iv 1) (.lit (.ofNat 0))) (.and (.cmp .eql (.iv 2) (.lit (.ofNat 0))) (.and (.cmp .eql (.iv 3) (.lit (.ofNat 0))) (.and (.cmp .eql (.iv 4) (.lit (.ofNat 0))) (.and (.cmp .eql (.iv 5) (.lit (.ofNat 0))) (.and (.cmp .eql (.iv 6) (.lit (.ofNat 0))) (.cmp .eql (.iv 7) (.lit (.ofNat 0)))))))))
def x7_24 : X := .not x7_23
def x7_42 : X := .or (.cmp .lss (.iv 4) (.lit (.ofNat 0))) (.and (.cmp .gtr (.iv 4) (.lit (.ofNat 0))) (.cmp .leq (.iv 4) (.iv 3)))
def x7_48 : X := .or (.cmp .lss (.iv 5) (.lit (.ofNat 0))) (.and (.cmp .gtr (.iv 5) (.lit (.ofNat 0))) (.cmp .leq (.iv 5) (.iv 3)))
def x7_54 : X := .or (.cmp .lss (.iv 6) (.lit (.ofNat 0))) (.and (.cmp .gtr (.iv 6) (.lit (.ofNat 0))) (.cmp .leq (.iv 6) (.iv 3)))
def x7_70 : X := .cmp .neq (.ite (.and x7_1 (.or x7_24 x7_23)) (.ite x7_24 (.lit (.ofNat 1)) (.lit (.ofNat 0))) (.ite (.or (.not (.and (.and (.cmp .geq (.iv 1) (.lit (.ofNat 0))) (.cmp .leq (.iv 1) (.lit (.ofNat 2)))) (.cmp .geq (.iv 2) (.lit (.ofNat 0))))) (.cmp .lss (.iv 3) (.lit (.ofNat 0)))) (.lit (.ofNat 1)) (.ite (.or x7_42 (.and (.not x7_42) (.or x7_48 (.and (.not x7_48) (.or x7_54 (.and (.not x7_54) (.or (.cmp .lss (.iv 7) (.lit (.ofNat 0))) (.and (.cmp .gtr (.iv 7) (.lit (.ofNat 0))) (.cmp .leq (.iv 7) (.iv 3)))))))))) (.lit (.ofNat 1)) (.lit (.ofNat 0))))) (.lit (.ofNat 0))
def x7_86 : X := .or (.or x7_70 (.not (.and (.and (.cmp .geq (.iv 8) (.lit (.ofNat 0))) (.cmp .leq (.iv 8) (.lit (.ofNat 2)))) (.cmp .geq (.iv 9) (.lit (.ofNat 0)))))) (.not (.and (.cmp .geq (.iv 10) (.lit (.ofNat 0))) (.cmp .leq (.iv 10) (.lit (.ofNat 1099511627776)))))
def v7 : ST := .tup [.agg [.cb (.ite x7_86 (.bv 0) (.or x7_1 (.bv 0))), .ci .i64 (.ite x7_86 (.iv 1) (.ite x7_1 (.iv 8) (.iv 1))), .ci .i64 (.ite x7_86 (.iv 2) (.ite x7_1 (.iv 9) (.iv 2))), .ci .i64 (.ite x7_86 (.iv 3) (.ite x7_1 (.iv 10) (.iv 3))), .ci .i64 (.iv 4), .ci .i64 (.iv 5), .ci .i64 (.iv 6), .ci .i64 (.iv 7)], .c (.ci .i64 (.ite x7_86 (.lit (.ofNat 1)) (.lit (.ofNat 0))))]
def ss7 : List SV := [.agg [.cb (.bv 0), .ci .i64 (.iv 1), .ci .i64 (.iv 2), .ci .i64 (.iv 3), .ci .i64 (.iv 4), .ci .i64 (.iv 5), .ci .i64 (.iv 6), .ci .i64 (.iv 7)], .c (.ci .i64 (.iv 8)), .c (.ci .i64 (.iv 9)), .c (.ci .i64 (.iv 10))]
def ks7 : List LK := [.b, .i .i64, .i .i64, .i .i64, .i .i64, .i .i64, .i .i64, .i .i64, .i .i64, .i .i64, .i .i64]
theorem args7 : argTs Try.prog Try.f7.params.toList 0 = some (ss7, ks7) := by kernel_rfl
theorem tree7 : tree Try.prog 12 (sumsIn sums18) 300 7 ss7 bare 0 ⟨ks7.map LK.rg, []⟩ = .leaf v7 := by kernel_rfl
def sums7 : List Sm := ⟨7, ss7, ks7, v7⟩ :: sums18
theorem sok7 : SumsOk Try.prog sums7 := sums_cons mixed sok18 args7 tree7 (by kernel_rfl)
def x8_4 : X := .not (.bv 0)
def x8_23 : X := .and x8_4 (.and (.cmp .eql (.iv 1) (.lit (.ofNat 0))) (.and (.cmp .eql (.iv 2) (.lit (.ofNat 0))) (.and (.cmp .eql (.iv 3) (.lit (.ofNat 0))) (.and (.cmp .eql (.iv 4) (.lit (.ofNat 0))) (.and (.cmp .eql (.iv 5) (.lit (.ofNat 0))) (.and (.cmp .eql (.iv 6) (.lit (.ofNat 0))) (.cmp .eql (.iv 7) (.lit (.ofNat 0)))))))))
def x8_24 : X := .not x8_23
def x8_42 : X := .or (.cmp .lss (.iv 4) (.lit (.ofNat 0))) (.and (.cmp .gtr (.iv 4) (.lit (.ofNat 0))) (.cmp .leq (.iv 4) (.iv 3)))
def x8_48 : X := .or (.cmp .lss (.iv 5) (.lit (.ofNat 0))) (.and (.cmp .gtr (.iv 5) (.lit (.ofNat 0))) (.cmp .leq (.iv 5) (.iv 3)))
def x8_54 : X := .or (.cmp .lss (.iv 6) (.lit (.ofNat 0))) (.and (.cmp .gtr (.iv 6) (.lit (.ofNat 0))) (.cmp .leq (.iv 6) (.iv 3)))
def x8_70 : X := .cmp .neq (.ite (.and x8_4 (.or x8_24 x8_23)) (.ite x8_24 (.lit (.ofNat 1)) (.lit (.ofNat 0))) (.ite (.or (.not (.and (.and (.cmp .geq (.iv 1) (.lit (.ofNat 0))) (.cmp .leq (.iv 1) (.lit (.ofNat 2)))) (.cmp .geq (.iv 2) (.lit (.ofNat 0))))) (.cmp .lss (.iv 3) (.lit (.ofNat 0)))) (.lit (.ofNat 1)) (.ite (.or x8_42 (.and (.not x8_42) (.or x8_48 (.and (.not x8_48) (.or x8_54 (.and (.not x8_54) (.or (.cmp .lss (.iv 7) (.lit (.ofNat 0))) (.and (.cmp .gtr (.iv 7) (.lit (.ofNat 0))) (.cmp .leq (.iv 7) (.iv 3)))))))))) (.lit (.ofNat 1)) (.lit (.ofNat 0))))) (.lit (.ofNat 0))
def x8_83 : X := .or (.or (.or x8_70 (.cmp .lss (.iv 8) (.lit (.ofNat 0)))) (.cmp .geq (.iv 8) (.lit (.ofNat 4)))) (.not (.and (.cmp .geq (.iv 9) (.lit (.ofNat 0))) (.cmp .leq (.iv 9) (.lit (.ofNat 1099511627776)))))
def x8_84 : X := .not x8_83
def x8_85 : X := .cmp .eql (.iv 8) (.lit (.ofNat 0))
def x8_87 : X := .or x8_4 (.cmp .lss (.iv 9) (.iv 3))
def x8_90 : X := .cmp .eql (.iv 8) (.lit (.ofNat 1))
def x8_93 : X := .cmp .eql (.iv 8) (.lit (.ofNat 2))
def x8_100 : X := .ite x8_85 (.or x8_87 (.cmp .gtr (.iv 4) (.iv 9))) (.ite x8_90 (.or x8_87 (.cmp .gtr (.iv 5) (.iv 9))) (.ite x8_93 (.or x8_87 (.cmp .gtr (.iv 6) (.iv 9))) (.or x8_87 (.cmp .gtr (.iv 7) (.iv 9)))))
def x8_101 : X := .not x8_100
def x8_105 : X := .or x8_83 (.and x8_84 (.or x8_100 (.and x8_101 x8_85)))
def x8_106 : X := .bin .add .i64 (.iv 9) (.lit (.ofNat 1))
def x8_110 : X := .not x8_85
def x8_113 : X := .and x8_84 (.and x8_101 (.and x8_110 x8_90))
def x8_120 : X := .and x8_84 (.and x8_101 (.and x8_110 (.and (.not x8_90) x8_93)))
def v8 : ST := .tup [.agg [.cb (.bv 0), .ci .i64 (.iv 1), .ci .i64 (.iv 2), .ci .i64 (.iv 3), .ci .i64 (.ite x8_105 (.ite x8_83 (.iv 4) (.ite x8_100 (.iv 4) x8_106)) (.iv 4)), .ci .i64 (.ite x8_105 (.iv 5) (.ite x8_113 x8_106 (.iv 5))), .ci .i64 (.ite x8_105 (.iv 6) (.ite x8_113 (.iv 6) (.ite x8_120 x8_106 (.iv 6)))), .ci .i64 (.ite x8_105 (.iv 7) (.ite x8_113 (.iv 7) (.ite x8_120 (.iv 7) x8_106)))], .agg [.ci .i64 (.ite x8_105 (.ite x8_83 (.lit (.ofNat 0)) (.ite x8_100 (.lit (.ofNat 0)) (.iv 9))) (.iv 9)), .ci .i64 (.ite x8_105 (.ite x8_83 (.lit (.ofNat 0)) (.ite x8_100 (.lit (.ofNat 0)) (.iv 8))) (.iv 8)), .ci .i64 (.ite x8_105 (.ite x8_83 (.lit (.ofNat 0)) (.ite x8_100 (.lit (.ofNat 0)) (.iv 1))) (.iv 1)), .ci .i64 (.ite x8_105 (.ite x8_83 (.lit (.ofNat 0)) (.ite x8_100 (.lit (.ofNat 0)) (.iv 2))) (.iv 2)), .ci .i64 (.ite x8_105 (.ite x8_83 (.lit (.ofNat 0)) (.ite x8_100 (.lit (.ofNat 0)) (.iv 3))) (.iv 3))], .c (.cb (.or (.not x8_105) (.and x8_84 x8_101))), .c (.ci .i64 (.ite x8_105 (.ite x8_83 (.lit (.ofNat 1)) (.lit (.ofNat 0))) (.lit (.ofNat 0))))]
def ss8 : List SV := [.agg [.cb (.bv 0), .ci .i64 (.iv 1), .ci .i64 (.iv 2), .ci .i64 (.iv 3), .ci .i64 (.iv 4), .ci .i64 (.iv 5), .ci .i64 (.iv 6), .ci .i64 (.iv 7)], .c (.ci .i64 (.iv 8)), .c (.ci .i64 (.iv 9))]
def ks8 : List LK := [.b, .i .i64, .i .i64, .i .i64, .i .i64, .i .i64, .i .i64, .i .i64, .i .i64, .i .i64]
theorem args8 : argTs Try.prog Try.f8.params.toList 0 = some (ss8, ks8) := by kernel_rfl
theorem tree8 : tree Try.prog 12 (sumsIn sums7) 300 8 ss8 bare 0 ⟨ks8.map LK.rg, []⟩ = .leaf v8 := by kernel_rfl
def sums8 : List Sm := ⟨8, ss8, ks8, v8⟩ :: sums7
theorem sok8 : SumsOk Try.prog sums8 := sums_cons mixed sok7 args8 tree8 (by kernel_rfl)
def x10_5 : X := .not (.bv 0)
def x10_11 : X := .not (.or (.cmp .lss (.iv 4) (.lit (.ofNat 0))) (.and (.cmp .gtr (.iv 4) (.lit (.ofNat 0))) (.or x10_5 (.cmp .leq (.iv 4) (.iv 3)))))
def x10_18 : X := .or (.cmp .lss (.iv 5) (.lit (.ofNat 0))) (.and (.cmp .gtr (.iv 5) (.lit (.ofNat 0))) (.or x10_5 (.cmp .leq (.iv 5) (.iv 3))))
def x10_21 : X := .not x10_18
def x10_28 : X := .or (.cmp .lss (.iv 6) (.lit (.ofNat 0))) (.and (.cmp .gtr (.iv 6) (.lit (.ofNat 0))) (.or x10_5 (.cmp .leq (.iv 6) (.iv 3))))
def v10 : ST := .v (.c (.cb (.and x10_11 (.and (.not (.and x10_11 x10_18)) (.and (.not (.and x10_11 (.and x10_21 x10_28))) (.and (.not (.and x10_11 (.and x10_21 (.and (.not x10_28) (.or (.cmp .lss (.iv 7) (.lit (.ofNat 0))) (.and (.cmp .gtr (.iv 7) (.lit (.ofNat 0))) (.or x10_5 (.cmp .leq (.iv 7) (.iv 3))))))))) (.ite x10_5 (.and (.and (.cmp .eql (.iv 1) (.lit (.ofNat 0))) (.cmp .eql (.iv 2) (.lit (.ofNat 0)))) (.cmp .eql (.iv 3) (.lit (.ofNat 0)))) (.and (.and (.and (.cmp .leq (.lit (.ofNat 0)) (.iv 1)) (.cmp .leq (.iv 1) (.lit (.ofNat 2)))) (.cmp .geq (.iv 2) (.lit (.ofNat 0)))) (.cmp .geq (.iv 3) (.lit (.ofNat 0)))))))))))
def ss10 : List SV := [.agg [.cb (.bv 0), .ci .i64 (.iv 1), .ci .i64 (.iv 2), .ci .i64 (.iv 3), .ci .i64 (.iv 4), .ci .i64 (.iv 5), .ci .i64 (.iv 6), .ci .i64 (.iv 7)]]
def ks10 : List LK := [.b, .i .i64, .i .i64, .i .i64, .i .i64, .i .i64, .i .i64, .i .i64]
theorem args10 : argTs Try.prog Try.f10.params.toList 0 = some (ss10, ks10) := by kernel_rfl
theorem tree10 : tree Try.prog 12 (sumsIn sums8) 300 10 ss10 bare 0 ⟨ks10.map LK.rg, []⟩ = .leaf v10 := by kernel_rfl
def sums10 : List Sm := ⟨10, ss10, ks10, v10⟩ :: sums8
theorem sok10 : SumsOk Try.prog sums10 := sums_cons mixed sok8 args10 tree10 (by kernel_rfl)
def v11 : ST := .v (.c (.cb (.and (.cmp .leq (.lit (.ofNat 0)) (.iv 0)) (.cmp .leq (.iv 0) (.lit (.ofNat 1099511627776))))))
def ss11 : List SV := [.c (.ci .i64 (.iv 0))]
def ks11 : List LK := [.i .i64]
theorem args11 : argTs Try.prog Try.f11.params.toList 0 = some (ss11, ks11) := by kernel_rfl
theorem tree11 : tree Try.prog 12 (sumsIn sums10) 300 11 ss11 bare 0 ⟨ks11.map LK.rg, []⟩ = .leaf v11 := by kernel_rfl
def sums11 : List Sm := ⟨11, ss11, ks11, v11⟩ :: sums10
theorem sok11 : SumsOk Try.prog sums11 := sums_cons mixed sok10 args11 tree11 (by kernel_rfl)
def v12 : ST := .v (.c (.cb (.bl true)))
def ss12 : List SV := []
def ks12 : List LK := []
theorem args12 : argTs Try.prog Try.f12.params.toList 0 = some (ss12, ks12) := by kernel_rfl
theorem tree12 : tree Try.prog 12 (sumsIn sums11) 300 12 ss12 bare 0 ⟨ks12.map LK.rg, []⟩ = .leaf v12 := by kernel_rfl
def sums12 : List Sm := ⟨12, ss12, ks12, v12⟩ :: sums11
theorem sok12 : SumsOk Try.prog sums12 := sums_cons mixed sok11 args12 tree12 (by kernel_rfl)
def ss3 : List SV := [.agg [.cb (.bv 0), .ci .i64 (.iv 1), .ci .i64 (.iv 2), .ci .i64 (.iv 3), .ci .i64 (.iv 4), .ci .i64 (.iv 5), .ci .i64 (.iv 6), .ci .i64 (.iv 7), .ci .i64 (.iv 8), .ci .i64 (.iv 9), .ci .i64 (.iv 10), .ci .i64 (.iv 11)]]
def ks3 : List LK := [.b, .i .i64, .i .i64, .i .i64, .i .i64, .i .i64, .i .i64, .i .i64, .i .i64, .i .i64, .i .i64, .i .i64]
theorem args3 : argTs Try.prog Try.f3.params.toList 0 = some (ss3, ks3) := by kernel_rfl
def c_ : X := .bv 0
def c_1 : X := .cmp .lss (.iv 1) (.lit (.ofNat 0))
def K_11 : Known := (((⟨ks3.map LK.rg, []⟩ : Known).assume c_ true).assume c_1 true)
theorem leaf_11 : (tree Try.prog 0 (sumsIn sums12) 300 3 ss3 bare 6 K_11).prove 300 1000 K_11 = true := by kernel_rfl
def c_10 : X := .cmp .gtr (.iv 1) (.lit (.ofNat 2))
def K_101 : Known := ((((⟨ks3.map LK.rg, []⟩ : Known).assume c_ true).assume c_1 false).assume c_10 true)
theorem leaf_101 : (tree Try.prog 0 (sumsIn sums12) 300 3 ss3 bare 6 K_101).prove 300 1000 K_101 = true := by kernel_rfl
def c_100 : X := .cmp .lss (.iv 2) (.lit (.ofNat 0))
def K_1001 : Known := (((((⟨ks3.map LK.rg, []⟩ : Known).assume c_ true).assume c_1 false).assume c_10 false).assume c_100 true)
theorem leaf_1001 : (tree Try.prog 0 (sumsIn sums12) 300 3 ss3 bare 6 K_1001).prove 300 1000 K_1001 = true := by kernel_rfl
def c_1000 : X := .cmp .lss (.iv 3) (.lit (.ofNat 0))
def K_10001 : Known := ((((((⟨ks3.map LK.rg, []⟩ : Known).assume c_ true).assume c_1 false).assume c_10 false).assume c_100 false).assume c_1000 true)
theorem leaf_10001 : (tree Try.prog 0 (sumsIn sums12) 300 3 ss3 bare 6 K_10001).prove 300 1000 K_10001 = true := by kernel_rfl
def c_10000 : X := .cmp .lss (.iv 4) (.lit (.ofNat 0))
def K_100001 : Known := (((((((⟨ks3.map LK.rg, []⟩ : Known).assume c_ true).assume c_1 false).assume c_10 false).assume c_100 false).assume c_1000 false).assume c_10000 true)
theorem leaf_100001 : (tree Try.prog 0 (sumsIn sums12) 300 3 ss3 bare 6 K_100001).prove 300 1000 K_100001 = true := by kernel_rfl
def c_100000 : X := .and (.cmp .gtr (.iv 4) (.lit (.ofNat 0))) (.cmp .leq (.iv 4) (.iv 3))
def K_1000001 : Known := ((((((((⟨ks3.map LK.rg, []⟩ : Known).assume c_ true).assume c_1 false).assume c_10 false).assume c_100 false).assume c_1000 false).assume c_10000 false).assume c_100000 true)
theorem leaf_1000001 : (tree Try.prog 0 (sumsIn sums12) 300 3 ss3 bare 6 K_1000001).prove 300 1000 K_1000001 = true := by kernel_rfl
def c_1000000 : X := .cmp .lss (.iv 5) (.lit (.ofNat 0))
def K_10000001 : Known := (((((((((⟨ks3.map LK.rg, []⟩ : Known).assume c_ true).assume c_1 false).assume c_10 false).assume c_100 false).assume c_1000 false).assume c_10000 false).assume c_100000 false).assume c_1000000 true)
theorem leaf_10000001 : (tree Try.prog 0 (sumsIn sums12) 300 3 ss3 bare 6 K_10000001).prove 300 1000 K_10000001 = true := by kernel_rfl
def c_10000000 : X := .and (.cmp .gtr (.iv 5) (.lit (.ofNat 0))) (.cmp .leq (.iv 5) (.iv 3))
def K_100000001 : Known := ((((((((((⟨ks3.map LK.rg, []⟩ : Known).assume c_ true).assume c_1 false).assume c_10 false).assume c_100 false).assume c_1000 false).assume c_10000 false).assume c_100000 false).assume c_1000000 false).assume c_10000000 true)
theorem leaf_100000001 : (tree Try.prog 0 (sumsIn sums12) 300 3 ss3 bare 6 K_100000001).prove 300 1000 K_100000001 = true := by kernel_rfl
def c_100000000 : X := .cmp .lss (.iv 6) (.lit (.ofNat 0))
def K_1000000001 : Known := (((((((((((⟨ks3.map LK.rg, []⟩ : Known).assume c_ true).assume c_1 false).assume c_10 false).assume c_100 false).assume c_1000 false).assume c_10000 false).assume c_100000 false).assume c_1000000 false).assume c_10000000 false).assume c_100000000 true)
theorem leaf_1000000001 : (tree Try.prog 0 (sumsIn sums12) 300 3 ss3 bare 6 K_1000000001).prove 300 1000 K_1000000001 = true := by kernel_rfl
def c_1000000000 : X := .and (.cmp .gtr (.iv 6) (.lit (.ofNat 0))) (.cmp .leq (.iv 6) (.iv 3))
def K_10000000001 : Known := ((((((((((((⟨ks3.map LK.rg, []⟩ : Known).assume c_ true).assume c_1 false).assume c_10 false).assume c_100 false).assume c_1000 false).assume c_10000 false).assume c_100000 false).assume c_1000000 false).assume c_10000000 false).assume c_100000000 false).assume c_1000000000 true)
theorem leaf_10000000001 : (tree Try.prog 0 (sumsIn sums12) 300 3 ss3 bare 6 K_10000000001).prove 300 1000 K_10000000001 = true := by kernel_rfl
def c_10000000000 : X := .cmp .lss (.iv 7) (.lit (.ofNat 0))
def K_100000000001 : Known := (((((((((((((⟨ks3.map LK.rg, []⟩ : Known).assume c_ true).assume c_1 false).assume c_10 false).assume c_100 false).assume c_1000 false).assume c_10000 false).assume c_100000 false).assume c_1000000 false).assume c_10000000 false).assume c_100000000 false).assume c_1000000000 false).assume c_10000000000 true)
theorem leaf_100000000001 : (tree Try.prog 0 (sumsIn sums12) 300 3 ss3 bare 6 K_100000000001).prove 300 1000 K_100000000001 = true := by kernel_rfl
def c_100000000000 : X := .and (.cmp .gtr (.iv 7) (.lit (.ofNat 0))) (.cmp .leq (.iv 7) (.iv 3))
def K_1000000000001 : Known := ((((((((((((((⟨ks3.map LK.rg, []⟩ : Known).assume c_ true).assume c_1 false).assume c_10 false).assume c_100 false).assume c_1000 false).assume c_10000 false).assume c_100000 false).assume c_1000000 false).assume c_10000000 false).assume c_100000000 false).assume c_1000000000 false).assume c_10000000000 false).assume c_100000000000 true)
theorem leaf_1000000000001 : (tree Try.prog 0 (sumsIn sums12) 300 3 ss3 bare 6 K_1000000000001).prove 300 1000 K_1000000000001 = true := by kernel_rfl
def c_1000000000000 : X := .cmp .lss (.iv 11) (.lit (.ofNat 0))
def K_10000000000001 : Known := (((((((((((((((⟨ks3.map LK.rg, []⟩ : Known).assume c_ true).assume c_1 false).assume c_10 false).assume c_100 false).assume c_1000 false).assume c_10000 false).assume c_100000 false).assume c_1000000 false).assume c_10000000 false).assume c_100000000 false).assume c_1000000000 false).assume c_10000000000 false).assume c_100000000000 false).assume c_1000000000000 true)
theorem leaf_10000000000001 : (tree Try.prog 0 (sumsIn sums12) 300 3 ss3 bare 6 K_10000000000001).prove 300 1000 K_10000000000001 = true := by kernel_rfl
def c_10000000000000 : X := .cmp .gtr (.iv 11) (.lit (.ofNat 1099511627776))
def K_100000000000001 : Known := ((((((((((((((((⟨ks3.map LK.rg, []⟩ : Known).assume c_ true).assume c_1 false).assume c_10 false).assume c_100 false).assume c_1000 false).assume c_10000 false).assume c_100000 false).assume c_1000000 false).assume c_10000000 false).assume c_100000000 false).assume c_1000000000 false).assume c_10000000000 false).assume c_100000000000 false).assume c_1000000000000 false).assume c_10000000000000 true)
theorem leaf_100000000000001 : (tree Try.prog 0 (sumsIn sums12) 300 3 ss3 bare 6 K_100000000000001).prove 300 1000 K_100000000000001 = true := by kernel_rfl
def c_100000000000000 : X := .cmp .eql (.iv 10) (.lit (.ofNat 0))
def K_1000000000000001 : Known := (((((((((((((((((⟨ks3.map LK.rg, []⟩ : Known).assume c_ true).assume c_1 false).assume c_10 false).assume c_100 false).assume c_1000 false).assume c_10000 false).assume c_100000 false).assume c_1000000 false).assume c_10000000 false).assume c_100000000 false).assume c_1000000000 false).assume c_10000000000 false).assume c_100000000000 false).assume c_1000000000000 false).assume c_10000000000000 false).assume c_100000000000000 true)
theorem leaf_1000000000000001 : (tree Try.prog 0 (sumsIn sums12) 300 3 ss3 bare 6 K_1000000000000001).prove 300 1000 K_1000000000000001 = true := by kernel_rfl
def c_1000000000000000 : X := .cmp .eql (.iv 10) (.lit (.ofNat 1))
def K_10000000000000001 : Known := ((((((((((((((((((⟨ks3.map LK.rg, []⟩ : Known).assume c_ true).assume c_1 false).assume c_10 false).assume c_100 false).assume c_1000 false).assume c_10000 false).assume c_100000 false).assume c_1000000 false).assume c_10000000 false).assume c_100000000 false).assume c_1000000000 false).assume c_10000000000 false).assume c_100000000000 false).assume c_1000000000000 false).assume c_10000000000000 false).assume c_100000000000000 false).assume c_1000000000000000 true)
theorem leaf_10000000000000001 : (tree Try.prog 0 (sumsIn sums12) 300 3 ss3 bare 6 K_10000000000000001).prove 300 1000 K_10000000000000001 = true := by kernel_rfl
def c_10000000000000000 : X := .cmp .eql (.iv 10) (.lit (.ofNat 2))
def K_100000000000000001 : Known := (((((((((((((((((((⟨ks3.map LK.rg, []⟩ : Known).assume c_ true).assume c_1 false).assume c_10 false).assume c_100 false).assume c_1000 false).assume c_10000 false).assume c_100000 false).assume c_1000000 false).assume c_10000000 false).assume c_100000000 false).assume c_1000000000 false).assume c_10000000000 false).assume c_100000000000 false).assume c_1000000000000 false).assume c_10000000000000 false).assume c_100000000000000 false).assume c_1000000000000000 false).assume c_10000000000000000 true)
theorem leaf_100000000000000001 : (tree Try.prog 0 (sumsIn sums12) 300 3 ss3 bare 6 K_100000000000000001).prove 300 1000 K_100000000000000001 = true := by kernel_rfl
def c_100000000000000000 : X := .cmp .eql (.iv 10) (.lit (.ofNat 3))
def K_1000000000000000001 : Known := ((((((((((((((((((((⟨ks3.map LK.rg, []⟩ : Known).assume c_ true).assume c_1 false).assume c_10 false).assume c_100 false).assume c_1000 false).assume c_10000 false).assume c_100000 false).assume c_1000000 false).assume c_10000000 false).assume c_100000000 false).assume c_1000000000 false).assume c_10000000000 false).assume c_100000000000 false).assume c_1000000000000 false).assume c_10000000000000 false).assume c_100000000000000 false).assume c_1000000000000000 false).assume c_10000000000000000 false).assume c_100000000000000000 true)
theorem leaf_1000000000000000001 : (tree Try.prog 0 (sumsIn sums12) 300 3 ss3 bare 6 K_1000000000000000001).prove 300 1000 K_1000000000000000001 = true := by kernel_rfl
def K_1000000000000000000 : Known := ((((((((((((((((((((⟨ks3.map LK.rg, []⟩ : Known).assume c_ true).assume c_1 false).assume c_10 false).assume c_100 false).assume c_1000 false).assume c_10000 false).assume c_100000 false).assume c_1000000 false).assume c_10000000 false).assume c_100000000 false).assume c_1000000000 false).assume c_10000000000 false).assume c_100000000000 false).assume c_1000000000000 false).assume c_10000000000000 false).assume c_100000000000000 false).assume c_1000000000000000 false).assume c_10000000000000000 false).assume c_100000000000000000 false)
theorem leaf_1000000000000000000 : (tree Try.prog 0 (sumsIn sums12) 300 3 ss3 bare 6 K_1000000000000000000).prove 300 1000 K_1000000000000000000 = true := by kernel_rfl
def c_0 : X := .not (.cmp .eql (.iv 1) (.lit (.ofNat 0)))
def K_01 : Known := (((⟨ks3.map LK.rg, []⟩ : Known).assume c_ false).assume c_0 true)
theorem leaf_01 : (tree Try.prog 0 (sumsIn sums12) 300 3 ss3 bare 6 K_01).prove 300 1000 K_01 = true := by kernel_rfl
def c_00 : X := .not (.cmp .eql (.iv 2) (.lit (.ofNat 0)))
def K_001 : Known := ((((⟨ks3.map LK.rg, []⟩ : Known).assume c_ false).assume c_0 false).assume c_00 true)
theorem leaf_001 : (tree Try.prog 0 (sumsIn sums12) 300 3 ss3 bare 6 K_001).prove 300 1000 K_001 = true := by kernel_rfl
def c_000 : X := .not (.cmp .eql (.iv 3) (.lit (.ofNat 0)))
def K_0001 : Known := (((((⟨ks3.map LK.rg, []⟩ : Known).assume c_ false).assume c_0 false).assume c_00 false).assume c_000 true)
theorem leaf_0001 : (tree Try.prog 0 (sumsIn sums12) 300 3 ss3 bare 6 K_0001).prove 300 1000 K_0001 = true := by kernel_rfl
def c_0000 : X := .not (.cmp .eql (.iv 4) (.lit (.ofNat 0)))
def K_00001 : Known := ((((((⟨ks3.map LK.rg, []⟩ : Known).assume c_ false).assume c_0 false).assume c_00 false).assume c_000 false).assume c_0000 true)
theorem leaf_00001 : (tree Try.prog 0 (sumsIn sums12) 300 3 ss3 bare 6 K_00001).prove 300 1000 K_00001 = true := by kernel_rfl
def c_00000 : X := .not (.cmp .eql (.iv 5) (.lit (.ofNat 0)))
def K_000001 : Known := (((((((⟨ks3.map LK.rg, []⟩ : Known).assume c_ false).assume c_0 false).assume c_00 false).assume c_000 false).assume c_0000 false).assume c_00000 true)
theorem leaf_000001 : (tree Try.prog 0 (sumsIn sums12) 300 3 ss3 bare 6 K_000001).prove 300 1000 K_000001 = true := by kernel_rfl
def c_000000 : X := .not (.cmp .eql (.iv 6) (.lit (.ofNat 0)))
def K_0000001 : Known := ((((((((⟨ks3.map LK.rg, []⟩ : Known).assume c_ false).assume c_0 false).assume c_00 false).assume c_000 false).assume c_0000 false).assume c_00000 false).assume c_000000 true)
theorem leaf_0000001 : (tree Try.prog 0 (sumsIn sums12) 300 3 ss3 bare 6 K_0000001).prove 300 1000 K_0000001 = true := by kernel_rfl
def c_0000000 : X := .not (.cmp .eql (.iv 7) (.lit (.ofNat 0)))
def K_00000001 : Known := (((((((((⟨ks3.map LK.rg, []⟩ : Known).assume c_ false).assume c_0 false).assume c_00 false).assume c_000 false).assume c_0000 false).assume c_00000 false).assume c_000000 false).assume c_0000000 true)
theorem leaf_00000001 : (tree Try.prog 0 (sumsIn sums12) 300 3 ss3 bare 6 K_00000001).prove 300 1000 K_00000001 = true := by kernel_rfl
def c_00000000 : X := .cmp .lss (.iv 11) (.lit (.ofNat 0))
def K_000000001 : Known := ((((((((((⟨ks3.map LK.rg, []⟩ : Known).assume c_ false).assume c_0 false).assume c_00 false).assume c_000 false).assume c_0000 false).assume c_00000 false).assume c_000000 false).assume c_0000000 false).assume c_00000000 true)
theorem leaf_000000001 : (tree Try.prog 0 (sumsIn sums12) 300 3 ss3 bare 6 K_000000001).prove 300 1000 K_000000001 = true := by kernel_rfl
def c_000000000 : X := .cmp .gtr (.iv 11) (.lit (.ofNat 1099511627776))
def K_0000000001 : Known := (((((((((((⟨ks3.map LK.rg, []⟩ : Known).assume c_ false).assume c_0 false).assume c_00 false).assume c_000 false).assume c_0000 false).assume c_00000 false).assume c_000000 false).assume c_0000000 false).assume c_00000000 false).assume c_000000000 true)
theorem leaf_0000000001 : (tree Try.prog 0 (sumsIn sums12) 300 3 ss3 bare 6 K_0000000001).prove 300 1000 K_0000000001 = true := by kernel_rfl
def c_0000000000 : X := .cmp .eql (.iv 10) (.lit (.ofNat 0))
def K_00000000001 : Known := ((((((((((((⟨ks3.map LK.rg, []⟩ : Known).assume c_ false).assume c_0 false).assume c_00 false).assume c_000 false).assume c_0000 false).assume c_00000 false).assume c_000000 false).assume c_0000000 false).assume c_00000000 false).assume c_000000000 false).assume c_0000000000 true)
theorem leaf_00000000001 : (tree Try.prog 0 (sumsIn sums12) 300 3 ss3 bare 6 K_00000000001).prove 300 1000 K_00000000001 = true := by kernel_rfl
def c_00000000000 : X := .cmp .eql (.iv 10) (.lit (.ofNat 1))
def K_000000000001 : Known := (((((((((((((⟨ks3.map LK.rg, []⟩ : Known).assume c_ false).assume c_0 false).assume c_00 false).assume c_000 false).assume c_0000 false).assume c_00000 false).assume c_000000 false).assume c_0000000 false).assume c_00000000 false).assume c_000000000 false).assume c_0000000000 false).assume c_00000000000 true)
theorem leaf_000000000001 : (tree Try.prog 0 (sumsIn sums12) 300 3 ss3 bare 6 K_000000000001).prove 300 1000 K_000000000001 = true := by kernel_rfl
def c_000000000000 : X := .cmp .eql (.iv 10) (.lit (.ofNat 2))
def K_0000000000001 : Known := ((((((((((((((⟨ks3.map LK.rg, []⟩ : Known).assume c_ false).assume c_0 false).assume c_00 false).assume c_000 false).assume c_0000 false).assume c_00000 false).assume c_000000 false).assume c_0000000 false).assume c_00000000 false).assume c_000000000 false).assume c_0000000000 false).assume c_00000000000 false).assume c_000000000000 true)
theorem leaf_0000000000001 : (tree Try.prog 0 (sumsIn sums12) 300 3 ss3 bare 6 K_0000000000001).prove 300 1000 K_0000000000001 = true := by kernel_rfl
def c_0000000000000 : X := .cmp .eql (.iv 10) (.lit (.ofNat 3))
def K_00000000000001 : Known := (((((((((((((((⟨ks3.map LK.rg, []⟩ : Known).assume c_ false).assume c_0 false).assume c_00 false).assume c_000 false).assume c_0000 false).assume c_00000 false).assume c_000000 false).assume c_0000000 false).assume c_00000000 false).assume c_000000000 false).assume c_0000000000 false).assume c_00000000000 false).assume c_000000000000 false).assume c_0000000000000 true)
theorem leaf_00000000000001 : (tree Try.prog 0 (sumsIn sums12) 300 3 ss3 bare 6 K_00000000000001).prove 300 1000 K_00000000000001 = true := by kernel_rfl
def K_00000000000000 : Known := (((((((((((((((⟨ks3.map LK.rg, []⟩ : Known).assume c_ false).assume c_0 false).assume c_00 false).assume c_000 false).assume c_0000 false).assume c_00000 false).assume c_000000 false).assume c_0000000 false).assume c_00000000 false).assume c_000000000 false).assume c_0000000000 false).assume c_00000000000 false).assume c_000000000000 false).assume c_0000000000000 false)
theorem leaf_00000000000000 : (tree Try.prog 0 (sumsIn sums12) 300 3 ss3 bare 6 K_00000000000000).prove 300 1000 K_00000000000000 = true := by kernel_rfl
theorem plan3 : ∀ ρ, (⟨ks3.map LK.rg, []⟩ : Known).ok ρ → ∃ K d, K.ok ρ ∧ (tree Try.prog 0 (sumsIn sums12) 300 3 ss3 bare d K).prove 300 1000 K = true := fun ρ h => split_on c_ h (fun h => split_on c_1 h (fun h => ⟨K_11, 6, h, leaf_11⟩) (fun h => split_on c_10 h (fun h => ⟨K_101, 6, h, leaf_101⟩) (fun h => split_on c_100 h (fun h => ⟨K_1001, 6, h, leaf_1001⟩) (fun h => split_on c_1000 h (fun h => ⟨K_10001, 6, h, leaf_10001⟩) (fun h => split_on c_10000 h (fun h => ⟨K_100001, 6, h, leaf_100001⟩) (fun h => split_on c_100000 h (fun h => ⟨K_1000001, 6, h, leaf_1000001⟩) (fun h => split_on c_1000000 h (fun h => ⟨K_10000001, 6, h, leaf_10000001⟩) (fun h => split_on c_10000000 h (fun h => ⟨K_100000001, 6, h, leaf_100000001⟩) (fun h => split_on c_100000000 h (fun h => ⟨K_1000000001, 6, h, leaf_1000000001⟩) (fun h => split_on c_1000000000 h (fun h => ⟨K_10000000001, 6, h, leaf_10000000001⟩) (fun h => split_on c_10000000000 h (fun h => ⟨K_100000000001, 6, h, leaf_100000000001⟩) (fun h => split_on c_100000000000 h (fun h => ⟨K_1000000000001, 6, h, leaf_1000000000001⟩) (fun h => split_on c_1000000000000 h (fun h => ⟨K_10000000000001, 6, h, leaf_10000000000001⟩) (fun h => split_on c_10000000000000 h (fun h => ⟨K_100000000000001, 6, h, leaf_100000000000001⟩) (fun h => split_on c_100000000000000 h (fun h => ⟨K_1000000000000001, 6, h, leaf_1000000000000001⟩) (fun h => split_on c_1000000000000000 h (fun h => ⟨K_10000000000000001, 6, h, leaf_10000000000000001⟩) (fun h => split_on c_10000000000000000 h (fun h => ⟨K_100000000000000001, 6, h, leaf_100000000000000001⟩) (fun h => split_on c_100000000000000000 h (fun h => ⟨K_1000000000000000001, 6, h, leaf_1000000000000000001⟩) (fun h => ⟨K_1000000000000000000, 6, h, leaf_1000000000000000000⟩))))))))))))))))))) (fun h => split_on c_0 h (fun h => ⟨K_01, 6, h, leaf_01⟩) (fun h => split_on c_00 h (fun h => ⟨K_001, 6, h, leaf_001⟩) (fun h => split_on c_000 h (fun h => ⟨K_0001, 6, h, leaf_0001⟩) (fun h => split_on c_0000 h (fun h => ⟨K_00001, 6, h, leaf_00001⟩) (fun h => split_on c_00000 h (fun h => ⟨K_000001, 6, h, leaf_000001⟩) (fun h => split_on c_000000 h (fun h => ⟨K_0000001, 6, h, leaf_0000001⟩) (fun h => split_on c_0000000 h (fun h => ⟨K_00000001, 6, h, leaf_00000001⟩) (fun h => split_on c_00000000 h (fun h => ⟨K_000000001, 6, h, leaf_000000001⟩) (fun h => split_on c_000000000 h (fun h => ⟨K_0000000001, 6, h, leaf_0000000001⟩) (fun h => split_on c_0000000000 h (fun h => ⟨K_00000000001, 6, h, leaf_00000000001⟩) (fun h => split_on c_00000000000 h (fun h => ⟨K_000000000001, 6, h, leaf_000000000001⟩) (fun h => split_on c_000000000000 h (fun h => ⟨K_0000000000001, 6, h, leaf_0000000000001⟩) (fun h => split_on c_0000000000000 h (fun h => ⟨K_00000000000001, 6, h, leaf_00000000000001⟩) (fun h => ⟨K_00000000000000, 6, h, leaf_00000000000000⟩))))))))))))))

def zeros : Env := ⟨fun _ => 0, fun _ => false, fun _ _ => 0, fun _ _ => false, fun _ => .bool false⟩
set_option maxRecDepth 100000 in
theorem lifted3 (os : Os) (started : os.Started) (H : Type) (enc : TypeId × Value → H) :
    ReturnsInHanded {} Try.checked os 3 .any (Rows.flowTellsSpec.pre6 enc Try.prog Try.f3 Rows.flowTellsRow.domain false) (Rows.flowTellsSpec.post enc Try.prog Try.f3 false true false false) := by
  refine returnsInHanded_of_change (C := Try.checked) own started (by kernel_rfl) Try.func3
    (ChangeSpec.witness6 (enc := enc) (C := Try.checked) false ⟨#[], (ss3.map (SV.den zeros fun _ => 0)).toArray, []⟩ 8 (by kernel_rfl) (by kernel_rfl) (by kernel_rfl) (by kernel_rfl)) ?_
  intro W base args ds gs before hval0 hW _ _
  have hval : ∀ (j : Nat) t v, Try.f3.params[j]? = some t → args[j]? = some v → Value.okWide Try.prog W .any base t v := hval0
  have hW' := hW
  obtain ⟨p, q, hA0, hV, rfl, _, _⟩ := hW
  have hA : DataW.TrodAll enc Try.prog W 0 (fun _ => true) true Try.f3.params.toList args.toList ds p := hA0
  obtain ⟨rfl, rfl⟩ := trodVars_none hV
  have hA1 := hA
  rw [Try.params3] at hA1
  obtain ⟨v0, d0, e1, rfl, _⟩ := trodAll_one hA1
  refine (flat_plan (r := .any) (base := base) mixed sok12 args3 plan3 (w := W) (by rw [e1]; rfl) (fun j t v ht hv => hval j t v (by simpa using ht) hv)).mono fun e W' ⟨⟨v, he, hv⟩, hb⟩ => ?_
  subst hv
  subst he
  exact ⟨_, rfl, law_post (tb := 4) laid rfl (by rw [Try.params3]; intro t ht; simp at ht; first | (subst ht; exact ⟨by kernel_rfl, of_decide_eq_true (by kernel_rfl)⟩) | (rcases ht with rfl | rfl <;> exact ⟨by kernel_rfl, of_decide_eq_true (by kernel_rfl)⟩) | (rcases ht with rfl | rfl | rfl <;> exact ⟨by kernel_rfl, of_decide_eq_true (by kernel_rfl)⟩)) rfl Try.underlying4 hW' hA hb ⟨rfl, rfl, rfl⟩⟩

theorem flowTells_holds : Rows.FlowTellsSaid :=
  OpenClaim.holds_of_wide 3 Try.f3 rfl rfl rfl rfl rfl rfl rfl ⟨rfl, rfl, rfl, rfl, rfl⟩ rfl rfl rfl rfl rfl (by kernel_rfl) Try.func3 (by kernel_rfl)
    (of_decide_eq_true (by kernel_rfl)) (by unfold Func.isWrapper; first | (rw [if_pos (by decide +kernel)]; kernel_rfl) | (rw [if_neg (by decide +kernel)]; exact ⟨rfl, rfl⟩))
    (fun os started H enc _ => lifted3 os started H enc)
#print axioms flowTells_holds
end Go.Proofs.Ythehpoipeapiaaa
