/- For every input FlowFour answers true. -/
import Derived.Test.YthehpoipeapiaaaRows
import Derived.Test.YthehpoipeapiaaaSx23
namespace Go.Proofs.Ythehpoipeapiaaa
open Go.ChangeShapes Go.WideShapes Go.ChangeAt Go.RowKit Go.Sx

theorem own : ownKnob Try.prog.godebug = none := by kernel_rfl
theorem laid : laidOutB Try.prog = true := by kernel_rfl
theorem mixed : Try.prog.follows .mixedOrders = true := by kernel_rfl

def v17 : ST := .v (.c (.cb (.and (.and (.cmp .geq (.iv 0) (.lit (.ofNat 0))) (.cmp .leq (.iv 0) (.lit (.ofNat 2)))) (.cmp .geq (.iv 1) (.lit (.ofNat 0))))))
def ss17 : List SV := [.c (.ci .i64 (.iv 0)), .c (.ci .i64 (.iv 1))]
def ks17 : List LK := [.i .i64, .i .i64]
theorem args17 : argTs Try.prog Try.f17.params.toList 0 = some (ss17, ks17) := by kernel_rfl
theorem tree17 : tree Try.prog 12 (sumsIn []) 300 17 ss17 bare 0 ⟨ks17.map LK.rg, []⟩ = .leaf v17 := by kernel_rfl
def sums17 : List Sm := ⟨17, ss17, ks17, v17⟩ :: []
theorem sok17 : SumsOk Try.prog sums17 := sums_cons mixed sums_nil args17 tree17 (by kernel_rfl)
def x9_1 : X := .not (.bv 0)
def x9_23 : X := .and x9_1 (.and (.cmp .eql (.iv 1) (.lit (.ofNat 0))) (.and (.cmp .eql (.iv 2) (.lit (.ofNat 0))) (.and (.cmp .eql (.iv 3) (.lit (.ofNat 0))) (.and (.cmp .eql (.iv 4) (.lit (.ofNat 0))) (.and (.cmp .eql (.iv 5) (.lit (.ofNat 0))) (.and (.cmp .eql (.iv 6) (.lit (.ofNat 0))) (.cmp .eql (.iv 7) (.lit (.ofNat 0)))))))))
def x9_24 : X := .not x9_23
def x9_42 : X := .or (.cmp .lss (.iv 4) (.lit (.ofNat 0))) (.and (.cmp .gtr (.iv 4) (.lit (.ofNat 0))) (.cmp .leq (.iv 4) (.iv 3)))
def x9_48 : X := .or (.cmp .lss (.iv 5) (.lit (.ofNat 0))) (.and (.cmp .gtr (.iv 5) (.lit (.ofNat 0))) (.cmp .leq (.iv 5) (.iv 3)))
def x9_54 : X := .or (.cmp .lss (.iv 6) (.lit (.ofNat 0))) (.and (.cmp .gtr (.iv 6) (.lit (.ofNat 0))) (.cmp .leq (.iv 6) (.iv 3)))
def v9 : ST := .v (.c (.ci .i64 (.ite (.and x9_1 (.or x9_24 x9_23)) (.ite x9_24 (.lit (.ofNat 1)) (.lit (.ofNat 0))) (.ite (.or (.not (.and (.and (.cmp .geq (.iv 1) (.lit (.ofNat 0))) (.cmp .leq (.iv 1) (.lit (.ofNat 2)))) (.cmp .geq (.iv 2) (.lit (.ofNat 0))))) (.cmp .lss (.iv 3) (.lit (.ofNat 0)))) (.lit (.ofNat 1)) (.ite (.or x9_42 (.and (.not x9_42) (.or x9_48 (.and (.not x9_48) (.or x9_54 (.and (.not x9_54) (.or (.cmp .lss (.iv 7) (.lit (.ofNat 0))) (.and (.cmp .gtr (.iv 7) (.lit (.ofNat 0))) (.cmp .leq (.iv 7) (.iv 3)))))))))) (.lit (.ofNat 1)) (.lit (.ofNat 0)))))))
def ss9 : List SV := [.agg [.cb (.bv 0), .ci .i64 (.iv 1), .ci .i64 (.iv 2), .ci .i64 (.iv 3), .ci .i64 (.iv 4), .ci .i64 (.iv 5), .ci .i64 (.iv 6), .ci .i64 (.iv 7)]]
def ks9 : List LK := [.b, .i .i64, .i .i64, .i .i64, .i .i64, .i .i64, .i .i64, .i .i64]
theorem args9 : argTs Try.prog Try.f9.params.toList 0 = some (ss9, ks9) := by kernel_rfl
theorem tree9 : tree Try.prog 12 (sumsIn sums17) 300 9 ss9 bare 0 ⟨ks9.map LK.rg, []⟩ = .leaf v9 := by kernel_rfl
def sums9 : List Sm := ⟨9, ss9, ks9, v9⟩ :: sums17
theorem sok9 : SumsOk Try.prog sums9 := sums_cons mixed sok17 args9 tree9 (by kernel_rfl)
def v18 : ST := .v (.c (.cb (.and (.cmp .geq (.iv 0) (.lit (.ofNat 0))) (.cmp .leq (.iv 0) (.lit (.ofNat 1099511627776))))))
def ss18 : List SV := [.c (.ci .i64 (.iv 0))]
def ks18 : List LK := [.i .i64]
theorem args18 : argTs Try.prog Try.f18.params.toList 0 = some (ss18, ks18) := by kernel_rfl
theorem tree18 : tree Try.prog 12 (sumsIn sums9) 300 18 ss18 bare 0 ⟨ks18.map LK.rg, []⟩ = .leaf v18 := by kernel_rfl
def sums18 : List Sm := ⟨18, ss18, ks18, v18⟩ :: sums9
theorem sok18 : SumsOk Try.prog sums18 := sums_cons mixed sok9 args18 tree18 (by kernel_rfl)
def x7_1 : X := .not (.bv 0)
def x7_23 : X := .and x7_1 (.and (.cmp .eql (.iv 1) (.lit (.ofNat 0))) (.and (.cmp .eql (.iv 2) (.lit (.ofNat 0))) (.and (.cmp .eql (.iv 3) (.lit (.ofNat 0))) (.and (.cmp .eql (.iv 4) (.lit (.ofNat 0))) (.and (.cmp .eql (.iv 5) (.lit (.ofNat 0))) (.and (.cmp .eql (.iv 6) (.lit (.ofNat 0))) (.cmp .eql (.iv 7) (.lit (.ofNat 0)))))))))
def x7_24 : X := .not x7_23
def x7_42 : X := .or (.cmp .lss (.iv 4) (.lit (.ofNat 0))) (.and (.cmp .gtr (.iv 4) (.lit (.ofNat 0))) (.cmp .leq (.iv 4) (.iv 3)))
def x7_48 : X := .or (.cmp .lss (.iv 5) (.lit (.ofNat 0))) (.and (.cmp .gtr (.iv 5) (.lit (.ofNat 0))) (.cmp .leq (.iv 5) (.iv 3)))
def x7_54 : X := .or (.cmp .lss (.iv 6) (.lit (.ofNat 0))) (.and (.cmp .gtr (.iv 6) (.lit (.ofNat 0))) (.cmp .leq (.iv 6) (.iv 3)))
def x7_70 : X := .cmp .neq (.ite (.and x7_1 (.or x7_24 x7_23)) (.ite x7_24 (.lit (.ofNat 1)) (.lit (.ofNat 0))) (.ite (.or (.not (.and (.and (.cmp .geq (.iv 1) (.lit (.ofNat 0))) (.cmp .leq (.iv 1) (.lit (.ofNat 2)))) (.cmp .geq (.iv 2) (.lit (.ofNat 0))))) (.cmp .lss (.iv 3) (.lit (.ofNat 0)))) (.lit (.ofNat 1)) (.ite (.or x7_42 (.and (.not x7_42) (.or x7_48 (.and (.not x7_48) (.or x7_54 (.and (.not x7_54) (.or (.cmp .lss (.iv 7) (.lit (.ofNat 0))) (.and (.cmp .gtr (.iv 7) (.lit (.ofNat 0))) (.cmp .leq (.iv 7) (.iv 3)))))))))) (.lit (.ofNat 1)) (.lit (.ofNat 0))))) (.lit (.ofNat 0))
def x7_86 : X := .or (.or x7_70 (.not (.and (.and (.cmp .geq (.iv 8) (.lit (.ofNat 0))) (.cmp .leq (.iv 8) (.lit (.ofNat 2)))) (.cmp .geq (.iv 9) (.lit (.ofNat 0)))))) (.not (.and (.cmp .geq (.iv 10) (.lit (.ofNat 0))) (.cmp .leq (.iv 10) (.lit (.ofNat 1099511627776)))))
def v7 : ST := .tup [.agg [.cb (.ite x7_86 (.bv 0) (.or x7_1 (.bv 0))), .ci .i64 (.ite x7_86 (.iv 1) (.ite x7_1 (.iv 8) (.iv 1))), .ci .i64 (.ite x7_86 (.iv 2) (.ite x7_1 (.iv 9) (.iv 2))), .ci .i64 (.ite x7_86 (.iv 3) (.ite x7_1 (.iv 10) (.iv 3))), .ci .i64 (.iv 4), .ci .i64 (.iv 5), .ci .i64 (.iv 6), .ci .i64 (.iv 7)], .c (.ci .i64 (.ite x7_86 (.lit (.ofNat 1)) (.lit (.ofNat 0))))]
def ss7 : List SV := [.agg [.cb (.bv 0), .ci .i64 (.iv 1), .ci .i64 (.iv 2), .ci .i64 (.iv 3), .ci .i64 (.iv 4), .ci .i64 (.iv 5), .ci .i64 (.iv 6), .ci .i64 (.iv 7)], .c (.ci .i64 (.iv 8)), .c (.ci .i64 (.iv 9)), .c (.ci .i64 (.iv 10))]
def ks7 : List LK := [.b, .i .i64, .i .i64, .i .i64, .i .i64, .i .i64, .i .i64, .i .i64, .i .i64, .i .i64, .i .i64]
theorem args7 : argTs Try.prog Try.f7.params.toList 0 = some (ss7, ks7) := by kernel_rfl
theorem tree7 : tree Try.prog 12 (sumsIn sums18) 300 7 ss7 bare 0 ⟨ks7.map LK.rg, []⟩ = .leaf v7 := by kernel_rfl
def sums7 : List Sm := ⟨7, ss7, ks7, v7⟩ :: sums18
theorem sok7 : SumsOk Try.prog sums7 := sums_cons mixed sok18 args7 tree7 (by kernel_rfl)
def v12 : ST := .v (.c (.cb (.bl true)))
def ss12 : List SV := []
def ks12 : List LK := []
theorem args12 : argTs Try.prog Try.f12.params.toList 0 = some (ss12, ks12) := by kernel_rfl
theorem tree12 : tree Try.prog 12 (sumsIn sums7) 300 12 ss12 bare 0 ⟨ks12.map LK.rg, []⟩ = .leaf v12 := by kernel_rfl
def sums12 : List Sm := ⟨12, ss12, ks12, v12⟩ :: sums7
theorem sok12 : SumsOk Try.prog sums12 := sums_cons mixed sok7 args12 tree12 (by kernel_rfl)
def ss5 : List SV := [.agg [.cb (.bv 0), .ci .i64 (.iv 1), .ci .i64 (.iv 2), .ci .i64 (.iv 3), .ci .i64 (.iv 4), .ci .i64 (.iv 5), .ci .i64 (.iv 6), .ci .i64 (.iv 7), .ci .i64 (.iv 8), .ci .i64 (.iv 9), .ci .i64 (.iv 10), .ci .i64 (.iv 11)], .c (.ci .u8 (.iv 12)), .c (.ci .u8 (.iv 13))]
def ks5 : List LK := [.b, .i .i64, .i .i64, .i .i64, .i .i64, .i .i64, .i .i64, .i .i64, .i .i64, .i .i64, .i .i64, .i .i64, .i .u8, .i .u8]
def rs5 : List RowV := []
theorem args5 : argRs Try.prog Try.f5.params.toList 0 0 = some (ss5, ks5, rs5) := by kernel_rfl
def T (l : List (Nat × Ann)) (K : Known) : Prop := vcF Try.prog 0 (sumsIn sums12) 300 6 l 5 ss5 K = true
def V (K : Known) : Prop := X.prove 20 60 K (.bl false) = true
def c_0 : X := .cmp .lss (.iv 8) (.lit (.ofNat 0))
def c_1 : X := .cmp .gtr (.iv 8) (.lit (.ofNat 2))
def c_2 : X := .cmp .lss (.iv 9) (.lit (.ofNat 0))
def c_3 : X := .cmp .neq (.bin .and .u64 (.iv 13) (.lit (.ofNat 1))) (.lit (.ofNat 0))
def c_4 : X := .cmp .neq (.bin .and .u64 (.iv 13) (.lit (.ofNat 2))) (.lit (.ofNat 0))
def c_5 : X := .cmp .eql (.bin .rem .i64 (.bin .add .i64 (.lit (.ofNat 0)) (.iv 13)) (.lit (.ofNat 4))) (.lit (.ofNat 3))
def c_6 : X := .cmp .eql (.bin .rem .i64 (.bin .add .i64 (.lit (.ofNat 1)) (.iv 13)) (.lit (.ofNat 4))) (.lit (.ofNat 0))
def c_7 : X := .cmp .eql (.bin .rem .i64 (.bin .add .i64 (.lit (.ofNat 2)) (.iv 13)) (.lit (.ofNat 4))) (.lit (.ofNat 1))
def c_8 : X := .cmp .eql (.bin .rem .i64 (.bin .add .i64 (.lit (.ofNat 3)) (.iv 13)) (.lit (.ofNat 4))) (.lit (.ofNat 2))
def c_9 : X := .cmp .eql (.bin .rem .i64 (.bin .add .i64 (.lit (.ofNat 4)) (.iv 13)) (.lit (.ofNat 4))) (.lit (.ofNat 3))
def c_10 : X := .cmp .eql (.bin .rem .i64 (.bin .add .i64 (.lit (.ofNat 5)) (.iv 13)) (.lit (.ofNat 4))) (.lit (.ofNat 0))
def c_11 : X := .cmp .eql (.bin .rem .i64 (.bin .add .i64 (.lit (.ofNat 6)) (.iv 13)) (.lit (.ofNat 4))) (.lit (.ofNat 1))
def c_12 : X := .cmp .eql (.bin .rem .i64 (.bin .add .i64 (.lit (.ofNat 7)) (.iv 13)) (.lit (.ofNat 4))) (.lit (.ofNat 2))
def c_13 : X := .cmp .eql (.bin .rem .i64 (.bin .add .i64 (.lit (.ofNat 0)) (.iv 13)) (.lit (.ofNat 4))) (.lit (.ofNat 1))
def c_14 : X := .cmp .eql (.bin .rem .i64 (.bin .add .i64 (.lit (.ofNat 1)) (.iv 13)) (.lit (.ofNat 4))) (.lit (.ofNat 2))
def c_15 : X := .cmp .eql (.bin .rem .i64 (.bin .add .i64 (.lit (.ofNat 2)) (.iv 13)) (.lit (.ofNat 4))) (.lit (.ofNat 3))
def c_16 : X := .cmp .eql (.bin .rem .i64 (.bin .add .i64 (.lit (.ofNat 3)) (.iv 13)) (.lit (.ofNat 4))) (.lit (.ofNat 0))
def c_17 : X := .cmp .eql (.bin .rem .i64 (.bin .add .i64 (.lit (.ofNat 4)) (.iv 13)) (.lit (.ofNat 4))) (.lit (.ofNat 1))
def c_18 : X := .cmp .eql (.bin .rem .i64 (.bin .add .i64 (.lit (.ofNat 5)) (.iv 13)) (.lit (.ofNat 4))) (.lit (.ofNat 2))
def c_19 : X := .cmp .eql (.bin .rem .i64 (.bin .add .i64 (.lit (.ofNat 6)) (.iv 13)) (.lit (.ofNat 4))) (.lit (.ofNat 3))
def c_20 : X := .cmp .eql (.bin .rem .i64 (.bin .add .i64 (.lit (.ofNat 7)) (.iv 13)) (.lit (.ofNat 4))) (.lit (.ofNat 0))
def c_21 : X := .cmp .eql (.bin .rem .i64 (.bin .add .i64 (.lit (.ofNat 0)) (.iv 13)) (.lit (.ofNat 4))) (.lit (.ofNat 2))
def c_22 : X := .cmp .eql (.bin .rem .i64 (.bin .add .i64 (.lit (.ofNat 1)) (.iv 13)) (.lit (.ofNat 4))) (.lit (.ofNat 3))
def c_23 : X := .cmp .eql (.bin .rem .i64 (.bin .add .i64 (.lit (.ofNat 2)) (.iv 13)) (.lit (.ofNat 4))) (.lit (.ofNat 0))
def c_24 : X := .cmp .eql (.bin .rem .i64 (.bin .add .i64 (.lit (.ofNat 3)) (.iv 13)) (.lit (.ofNat 4))) (.lit (.ofNat 1))
def c_25 : X := .cmp .eql (.bin .rem .i64 (.bin .add .i64 (.lit (.ofNat 4)) (.iv 13)) (.lit (.ofNat 4))) (.lit (.ofNat 2))
def c_26 : X := .cmp .eql (.bin .rem .i64 (.bin .add .i64 (.lit (.ofNat 5)) (.iv 13)) (.lit (.ofNat 4))) (.lit (.ofNat 3))
def c_27 : X := .cmp .eql (.bin .rem .i64 (.bin .add .i64 (.lit (.ofNat 6)) (.iv 13)) (.lit (.ofNat 4))) (.lit (.ofNat 0))
def c_28 : X := .cmp .eql (.bin .rem .i64 (.bin .add .i64 (.lit (.ofNat 7)) (.iv 13)) (.lit (.ofNat 4))) (.lit (.ofNat 1))
def c_29 : X := .cmp .eql (.bin .rem .i64 (.bin .add .i64 (.lit (.ofNat 0)) (.iv 13)) (.lit (.ofNat 4))) (.lit (.ofNat 0))
def c_30 : X := .cmp .eql (.bin .rem .i64 (.bin .add .i64 (.lit (.ofNat 1)) (.iv 13)) (.lit (.ofNat 4))) (.lit (.ofNat 1))
def c_31 : X := .cmp .eql (.bin .rem .i64 (.bin .add .i64 (.lit (.ofNat 2)) (.iv 13)) (.lit (.ofNat 4))) (.lit (.ofNat 2))
def c_32 : X := .cmp .eql (.bin .rem .i64 (.bin .add .i64 (.lit (.ofNat 3)) (.iv 13)) (.lit (.ofNat 4))) (.lit (.ofNat 3))
def c_33 : X := .cmp .eql (.bin .rem .i64 (.bin .add .i64 (.lit (.ofNat 4)) (.iv 13)) (.lit (.ofNat 4))) (.lit (.ofNat 0))
def c_34 : X := .cmp .eql (.bin .rem .i64 (.bin .add .i64 (.lit (.ofNat 5)) (.iv 13)) (.lit (.ofNat 4))) (.lit (.ofNat 1))
def c_35 : X := .cmp .eql (.bin .rem .i64 (.bin .add .i64 (.lit (.ofNat 6)) (.iv 13)) (.lit (.ofNat 4))) (.lit (.ofNat 2))
def c_36 : X := .cmp .eql (.bin .rem .i64 (.bin .add .i64 (.lit (.ofNat 7)) (.iv 13)) (.lit (.ofNat 4))) (.lit (.ofNat 3))
def K_0 : Known := addRows rs5 ⟨ks5.map LK.rg, []⟩
def K_1 : Known := K_0.assume c_0 true
def K_2 : Known := K_0.assume c_0 false
def K_3 : Known := K_2.assume c_1 true
def K_4 : Known := K_2.assume c_1 false
def K_5 : Known := K_4.assume c_2 true
def K_6 : Known := K_4.assume c_2 false
def K_7 : Known := K_6.assume c_3 true
def K_8 : Known := K_7.assume c_4 true
def K_9 : Known := K_8.assume c_5 true
def K_10 : Known := K_9.assume c_6 true
def K_11 : Known := K_10.assume c_7 true
def K_12 : Known := K_11.assume c_8 true
def K_13 : Known := K_12.assume c_9 true
def K_14 : Known := K_13.assume c_10 true
def K_15 : Known := K_14.assume c_11 true
def K_16 : Known := K_15.assume c_12 true
def K_17 : Known := K_7.assume c_4 false
def K_18 : Known := K_17.assume c_13 true
def K_19 : Known := K_18.assume c_14 true
def K_20 : Known := K_19.assume c_15 true
def K_21 : Known := K_20.assume c_16 true
def K_22 : Known := K_21.assume c_17 true
def K_23 : Known := K_22.assume c_18 true
def K_24 : Known := K_23.assume c_19 true
def K_25 : Known := K_24.assume c_20 true
def K_26 : Known := K_6.assume c_3 false
def K_27 : Known := K_26.assume c_4 true
def K_28 : Known := K_27.assume c_21 true
def K_29 : Known := K_28.assume c_22 true
def K_30 : Known := K_29.assume c_23 true
def K_31 : Known := K_30.assume c_24 true
def K_32 : Known := K_31.assume c_25 true
def K_33 : Known := K_32.assume c_26 true
def K_34 : Known := K_33.assume c_27 true
def K_35 : Known := K_34.assume c_28 true
def K_36 : Known := K_26.assume c_4 false
def K_37 : Known := K_36.assume c_29 true
def K_38 : Known := K_37.assume c_30 true
def K_39 : Known := K_38.assume c_31 true
def K_40 : Known := K_39.assume c_32 true
def K_41 : Known := K_40.assume c_33 true
def K_42 : Known := K_41.assume c_34 true
def K_43 : Known := K_42.assume c_35 true
def K_44 : Known := K_43.assume c_36 true
theorem leaf_1 : T [] K_1 := by unfold T; kernel_rfl
theorem leaf_3 : T [] K_3 := by unfold T; kernel_rfl
theorem leaf_5 : T [] K_5 := by unfold T; kernel_rfl
def an_0 : Ann := ⟨[0, 3, 4, 5, 8, 16, 17, 18, 19, 20, 21, 22, 23, 24, 25, 26, 27, 28, 29, 30, 31, 32, 33, 34, 11, 12, 13, 14, 15, 35, 36, 37, 38, 39, 40, 41, 42, 43, 44, 45, 46, 47, 48, 49, 50, 51, 52, 53, 54, 55, 56, 57, 58, 59, 60, 61, 62, 63, 64, 65, 66, 67, 68, 69, 70, 71, 72, 90, 91, 92, 93, 94, 95], [5], [(4, .bin .mul .i64 (.lit (.ofNat 4)) (.iv 2)), (21, .iv 1), (22, .bin .add .i64 (.iv 1) (.iv 2)), (23, .bin .add .i64 (.iv 1) (.iv 2)), (24, .bin .add .i64 (.iv 1) (.iv 2)), (25, .bin .add .i64 (.iv 1) (.iv 2))], true, [some (0, 255), some (0, 255), some (1, 19), none, some (-9223372036854775808, 9223372036854775807), some (-9223372036854775808, 9223372036854775807), some (-9223372036854775808, 9223372036854775807), some (-9223372036854775808, 9223372036854775807), some (-9223372036854775808, 9223372036854775807), some (-9223372036854775808, 9223372036854775807), some (-9223372036854775808, 9223372036854775807), some (-9223372036854775808, 9223372036854775807), some (-9223372036854775808, 9223372036854775807), some (-9223372036854775808, 9223372036854775807), some (-9223372036854775808, 9223372036854775807), some (0, 2), some (0, 9223372036854775807)], [(.cmp .leq (.iv 2) (.bin .rem .u8 (.iv 0) (.lit (.ofNat 20))), true), (.cmp .eql (.bin .rem .i64 (.bin .add .i64 (.lit (.ofNat 0)) (.iv 1)) (.lit (.ofNat 4))) (.lit (.ofNat 3)), true), (.cmp .eql (.bin .rem .i64 (.bin .add .i64 (.lit (.ofNat 1)) (.iv 1)) (.lit (.ofNat 4))) (.lit (.ofNat 0)), true), (.cmp .eql (.bin .rem .i64 (.bin .add .i64 (.lit (.ofNat 2)) (.iv 1)) (.lit (.ofNat 4))) (.lit (.ofNat 1)), true), (.cmp .eql (.bin .rem .i64 (.bin .add .i64 (.lit (.ofNat 3)) (.iv 1)) (.lit (.ofNat 4))) (.lit (.ofNat 2)), true), (.cmp .eql (.bin .rem .i64 (.bin .add .i64 (.lit (.ofNat 4)) (.iv 1)) (.lit (.ofNat 4))) (.lit (.ofNat 3)), true), (.cmp .eql (.bin .rem .i64 (.bin .add .i64 (.lit (.ofNat 5)) (.iv 1)) (.lit (.ofNat 4))) (.lit (.ofNat 0)), true), (.cmp .eql (.bin .rem .i64 (.bin .add .i64 (.lit (.ofNat 6)) (.iv 1)) (.lit (.ofNat 4))) (.lit (.ofNat 1)), true), (.cmp .eql (.bin .rem .i64 (.bin .add .i64 (.lit (.ofNat 7)) (.iv 1)) (.lit (.ofNat 4))) (.lit (.ofNat 2)), true)], .bin .sub .i64 (.lit (.ofNat 20)) (.iv 2)⟩
theorem leaf_16 : T [(250, an_0)] K_16 := by unfold T; kernel_rfl
def an_1 : Ann := ⟨[0, 3, 4, 5, 8, 16, 17, 18, 19, 20, 21, 22, 23, 24, 25, 26, 27, 28, 29, 30, 31, 32, 33, 34, 11, 12, 13, 14, 15, 35, 36, 37, 38, 39, 40, 41, 42, 43, 44, 45, 46, 47, 48, 49, 50, 51, 52, 53, 54, 55, 56, 57, 58, 59, 60, 61, 62, 63, 64, 65, 66, 67, 68, 69, 70, 71, 72, 90, 91, 92, 93, 94, 95], [5], [(4, .bin .mul .i64 (.lit (.ofNat 4)) (.iv 2)), (21, .iv 1), (22, .bin .add .i64 (.iv 1) (.iv 2)), (23, .bin .add .i64 (.iv 1) (.iv 2)), (24, .bin .add .i64 (.iv 1) (.iv 2)), (25, .bin .add .i64 (.iv 1) (.iv 2))], true, [some (0, 255), some (0, 255), some (1, 19), none, some (-9223372036854775808, 9223372036854775807), some (-9223372036854775808, 9223372036854775807), some (-9223372036854775808, 9223372036854775807), some (-9223372036854775808, 9223372036854775807), some (-9223372036854775808, 9223372036854775807), some (-9223372036854775808, 9223372036854775807), some (-9223372036854775808, 9223372036854775807), some (-9223372036854775808, 9223372036854775807), some (-9223372036854775808, 9223372036854775807), some (-9223372036854775808, 9223372036854775807), some (-9223372036854775808, 9223372036854775807), some (0, 2), some (0, 9223372036854775807)], [(.cmp .leq (.iv 2) (.bin .rem .u8 (.iv 0) (.lit (.ofNat 20))), true), (.cmp .eql (.bin .rem .i64 (.bin .add .i64 (.lit (.ofNat 0)) (.iv 1)) (.lit (.ofNat 4))) (.lit (.ofNat 1)), true), (.cmp .eql (.bin .rem .i64 (.bin .add .i64 (.lit (.ofNat 1)) (.iv 1)) (.lit (.ofNat 4))) (.lit (.ofNat 2)), true), (.cmp .eql (.bin .rem .i64 (.bin .add .i64 (.lit (.ofNat 2)) (.iv 1)) (.lit (.ofNat 4))) (.lit (.ofNat 3)), true), (.cmp .eql (.bin .rem .i64 (.bin .add .i64 (.lit (.ofNat 3)) (.iv 1)) (.lit (.ofNat 4))) (.lit (.ofNat 0)), true), (.cmp .eql (.bin .rem .i64 (.bin .add .i64 (.lit (.ofNat 4)) (.iv 1)) (.lit (.ofNat 4))) (.lit (.ofNat 1)), true), (.cmp .eql (.bin .rem .i64 (.bin .add .i64 (.lit (.ofNat 5)) (.iv 1)) (.lit (.ofNat 4))) (.lit (.ofNat 2)), true), (.cmp .eql (.bin .rem .i64 (.bin .add .i64 (.lit (.ofNat 6)) (.iv 1)) (.lit (.ofNat 4))) (.lit (.ofNat 3)), true), (.cmp .eql (.bin .rem .i64 (.bin .add .i64 (.lit (.ofNat 7)) (.iv 1)) (.lit (.ofNat 4))) (.lit (.ofNat 0)), true)], .bin .sub .i64 (.lit (.ofNat 20)) (.iv 2)⟩
theorem leaf_25 : T [(250, an_1)] K_25 := by unfold T; kernel_rfl
def an_2 : Ann := ⟨[0, 3, 4, 5, 8, 16, 17, 18, 19, 20, 21, 22, 23, 24, 25, 26, 27, 28, 29, 30, 31, 32, 33, 34, 11, 12, 13, 14, 15, 35, 36, 37, 38, 39, 40, 41, 42, 43, 44, 45, 46, 47, 48, 49, 50, 51, 52, 53, 54, 55, 56, 57, 58, 59, 60, 61, 62, 63, 64, 65, 66, 67, 68, 69, 70, 71, 72, 90, 91, 92, 93, 94, 95], [5], [(4, .bin .mul .i64 (.lit (.ofNat 4)) (.iv 2)), (21, .iv 1), (22, .bin .add .i64 (.iv 1) (.iv 2)), (23, .bin .add .i64 (.iv 1) (.iv 2)), (24, .bin .add .i64 (.iv 1) (.iv 2)), (25, .bin .add .i64 (.iv 1) (.iv 2))], true, [some (0, 255), some (0, 255), some (1, 19), none, some (-9223372036854775808, 9223372036854775807), some (-9223372036854775808, 9223372036854775807), some (-9223372036854775808, 9223372036854775807), some (-9223372036854775808, 9223372036854775807), some (-9223372036854775808, 9223372036854775807), some (-9223372036854775808, 9223372036854775807), some (-9223372036854775808, 9223372036854775807), some (-9223372036854775808, 9223372036854775807), some (-9223372036854775808, 9223372036854775807), some (-9223372036854775808, 9223372036854775807), some (-9223372036854775808, 9223372036854775807), some (0, 2), some (0, 9223372036854775807)], [(.cmp .leq (.iv 2) (.bin .rem .u8 (.iv 0) (.lit (.ofNat 20))), true), (.cmp .eql (.bin .rem .i64 (.bin .add .i64 (.lit (.ofNat 0)) (.iv 1)) (.lit (.ofNat 4))) (.lit (.ofNat 2)), true), (.cmp .eql (.bin .rem .i64 (.bin .add .i64 (.lit (.ofNat 1)) (.iv 1)) (.lit (.ofNat 4))) (.lit (.ofNat 3)), true), (.cmp .eql (.bin .rem .i64 (.bin .add .i64 (.lit (.ofNat 2)) (.iv 1)) (.lit (.ofNat 4))) (.lit (.ofNat 0)), true), (.cmp .eql (.bin .rem .i64 (.bin .add .i64 (.lit (.ofNat 3)) (.iv 1)) (.lit (.ofNat 4))) (.lit (.ofNat 1)), true), (.cmp .eql (.bin .rem .i64 (.bin .add .i64 (.lit (.ofNat 4)) (.iv 1)) (.lit (.ofNat 4))) (.lit (.ofNat 2)), true), (.cmp .eql (.bin .rem .i64 (.bin .add .i64 (.lit (.ofNat 5)) (.iv 1)) (.lit (.ofNat 4))) (.lit (.ofNat 3)), true), (.cmp .eql (.bin .rem .i64 (.bin .add .i64 (.lit (.ofNat 6)) (.iv 1)) (.lit (.ofNat 4))) (.lit (.ofNat 0)), true), (.cmp .eql (.bin .rem .i64 (.bin .add .i64 (.lit (.ofNat 7)) (.iv 1)) (.lit (.ofNat 4))) (.lit (.ofNat 1)), true)], .bin .sub .i64 (.lit (.ofNat 20)) (.iv 2)⟩
theorem leaf_35 : T [(250, an_2)] K_35 := by unfold T; kernel_rfl
def an_3 : Ann := ⟨[0, 3, 4, 5, 8, 16, 17, 18, 19, 20, 21, 22, 23, 24, 25, 26, 27, 28, 29, 30, 31, 32, 33, 34, 11, 12, 13, 14, 15, 35, 36, 37, 38, 39, 40, 41, 42, 43, 44, 45, 46, 47, 48, 49, 50, 51, 52, 53, 54, 55, 56, 57, 58, 59, 60, 61, 62, 63, 64, 65, 66, 67, 68, 69, 70, 71, 72, 90, 91, 92, 93, 94, 95], [5], [(4, .bin .mul .i64 (.lit (.ofNat 4)) (.iv 2)), (21, .iv 1), (22, .bin .add .i64 (.iv 1) (.iv 2)), (23, .bin .add .i64 (.iv 1) (.iv 2)), (24, .bin .add .i64 (.iv 1) (.iv 2)), (25, .bin .add .i64 (.iv 1) (.iv 2))], true, [some (0, 255), some (0, 255), some (1, 19), none, some (-9223372036854775808, 9223372036854775807), some (-9223372036854775808, 9223372036854775807), some (-9223372036854775808, 9223372036854775807), some (-9223372036854775808, 9223372036854775807), some (-9223372036854775808, 9223372036854775807), some (-9223372036854775808, 9223372036854775807), some (-9223372036854775808, 9223372036854775807), some (-9223372036854775808, 9223372036854775807), some (-9223372036854775808, 9223372036854775807), some (-9223372036854775808, 9223372036854775807), some (-9223372036854775808, 9223372036854775807), some (0, 2), some (0, 9223372036854775807)], [(.cmp .leq (.iv 2) (.bin .rem .u8 (.iv 0) (.lit (.ofNat 20))), true), (.cmp .eql (.bin .rem .i64 (.bin .add .i64 (.lit (.ofNat 0)) (.iv 1)) (.lit (.ofNat 4))) (.lit (.ofNat 0)), true), (.cmp .eql (.bin .rem .i64 (.bin .add .i64 (.lit (.ofNat 1)) (.iv 1)) (.lit (.ofNat 4))) (.lit (.ofNat 1)), true), (.cmp .eql (.bin .rem .i64 (.bin .add .i64 (.lit (.ofNat 2)) (.iv 1)) (.lit (.ofNat 4))) (.lit (.ofNat 2)), true), (.cmp .eql (.bin .rem .i64 (.bin .add .i64 (.lit (.ofNat 3)) (.iv 1)) (.lit (.ofNat 4))) (.lit (.ofNat 3)), true), (.cmp .eql (.bin .rem .i64 (.bin .add .i64 (.lit (.ofNat 4)) (.iv 1)) (.lit (.ofNat 4))) (.lit (.ofNat 0)), true), (.cmp .eql (.bin .rem .i64 (.bin .add .i64 (.lit (.ofNat 5)) (.iv 1)) (.lit (.ofNat 4))) (.lit (.ofNat 1)), true), (.cmp .eql (.bin .rem .i64 (.bin .add .i64 (.lit (.ofNat 6)) (.iv 1)) (.lit (.ofNat 4))) (.lit (.ofNat 2)), true), (.cmp .eql (.bin .rem .i64 (.bin .add .i64 (.lit (.ofNat 7)) (.iv 1)) (.lit (.ofNat 4))) (.lit (.ofNat 3)), true)], .bin .sub .i64 (.lit (.ofNat 20)) (.iv 2)⟩
theorem leaf_44 : T [(250, an_3)] K_44 := by unfold T; kernel_rfl
theorem know_8 : X.proveE 300 1000 K_8 c_5 = true := by kernel_rfl
theorem know_9 : X.proveE 300 1000 K_9 c_6 = true := by kernel_rfl
theorem know_10 : X.proveE 300 1000 K_10 c_7 = true := by kernel_rfl
theorem know_11 : X.proveE 300 1000 K_11 c_8 = true := by kernel_rfl
theorem know_12 : X.proveE 300 1000 K_12 c_9 = true := by kernel_rfl
theorem know_13 : X.proveE 300 1000 K_13 c_10 = true := by kernel_rfl
theorem know_14 : X.proveE 300 1000 K_14 c_11 = true := by kernel_rfl
theorem know_15 : X.proveE 300 1000 K_15 c_12 = true := by kernel_rfl
theorem know_17 : X.proveE 300 1000 K_17 c_13 = true := by kernel_rfl
theorem know_18 : X.proveE 300 1000 K_18 c_14 = true := by kernel_rfl
theorem know_19 : X.proveE 300 1000 K_19 c_15 = true := by kernel_rfl
theorem know_20 : X.proveE 300 1000 K_20 c_16 = true := by kernel_rfl
theorem know_21 : X.proveE 300 1000 K_21 c_17 = true := by kernel_rfl
theorem know_22 : X.proveE 300 1000 K_22 c_18 = true := by kernel_rfl
theorem know_23 : X.proveE 300 1000 K_23 c_19 = true := by kernel_rfl
theorem know_24 : X.proveE 300 1000 K_24 c_20 = true := by kernel_rfl
theorem know_27 : X.proveE 300 1000 K_27 c_21 = true := by kernel_rfl
theorem know_28 : X.proveE 300 1000 K_28 c_22 = true := by kernel_rfl
theorem know_29 : X.proveE 300 1000 K_29 c_23 = true := by kernel_rfl
theorem know_30 : X.proveE 300 1000 K_30 c_24 = true := by kernel_rfl
theorem know_31 : X.proveE 300 1000 K_31 c_25 = true := by kernel_rfl
theorem know_32 : X.proveE 300 1000 K_32 c_26 = true := by kernel_rfl
theorem know_33 : X.proveE 300 1000 K_33 c_27 = true := by kernel_rfl
theorem know_34 : X.proveE 300 1000 K_34 c_28 = true := by kernel_rfl
theorem know_36 : X.proveE 300 1000 K_36 c_29 = true := by kernel_rfl
theorem know_37 : X.proveE 300 1000 K_37 c_30 = true := by kernel_rfl
theorem know_38 : X.proveE 300 1000 K_38 c_31 = true := by kernel_rfl
theorem know_39 : X.proveE 300 1000 K_39 c_32 = true := by kernel_rfl
theorem know_40 : X.proveE 300 1000 K_40 c_33 = true := by kernel_rfl
theorem know_41 : X.proveE 300 1000 K_41 c_34 = true := by kernel_rfl
theorem know_42 : X.proveE 300 1000 K_42 c_35 = true := by kernel_rfl
theorem know_43 : X.proveE 300 1000 K_43 c_36 = true := by kernel_rfl
theorem plan5 : ∀ ρ, (addRows rs5 ⟨ks5.map LK.rg, []⟩).ok ρ → ∃ K anns, K.ok ρ ∧ vcF Try.prog 0 (sumsIn sums12) 300 6 anns 5 ss5 K = true := fun _ h => split_on c_0 h (fun (h : K_1.ok _) => ⟨K_1, [], h, leaf_1⟩) (fun (h : K_2.ok _) => split_on c_1 h (fun (h : K_3.ok _) => ⟨K_3, [], h, leaf_3⟩) (fun (h : K_4.ok _) => split_on c_2 h (fun (h : K_5.ok _) => ⟨K_5, [], h, leaf_5⟩) (fun (h : K_6.ok _) => split_on c_3 h (fun (h : K_7.ok _) => split_on c_4 h (fun (h : K_8.ok _) => split_know c_5 h know_8 (fun (h : K_9.ok _) => split_know c_6 h know_9 (fun (h : K_10.ok _) => split_know c_7 h know_10 (fun (h : K_11.ok _) => split_know c_8 h know_11 (fun (h : K_12.ok _) => split_know c_9 h know_12 (fun (h : K_13.ok _) => split_know c_10 h know_13 (fun (h : K_14.ok _) => split_know c_11 h know_14 (fun (h : K_15.ok _) => split_know c_12 h know_15 (fun (h : K_16.ok _) => ⟨K_16, [(250, an_0)], h, leaf_16⟩))))))))) (fun (h : K_17.ok _) => split_know c_13 h know_17 (fun (h : K_18.ok _) => split_know c_14 h know_18 (fun (h : K_19.ok _) => split_know c_15 h know_19 (fun (h : K_20.ok _) => split_know c_16 h know_20 (fun (h : K_21.ok _) => split_know c_17 h know_21 (fun (h : K_22.ok _) => split_know c_18 h know_22 (fun (h : K_23.ok _) => split_know c_19 h know_23 (fun (h : K_24.ok _) => split_know c_20 h know_24 (fun (h : K_25.ok _) => ⟨K_25, [(250, an_1)], h, leaf_25⟩)))))))))) (fun (h : K_26.ok _) => split_on c_4 h (fun (h : K_27.ok _) => split_know c_21 h know_27 (fun (h : K_28.ok _) => split_know c_22 h know_28 (fun (h : K_29.ok _) => split_know c_23 h know_29 (fun (h : K_30.ok _) => split_know c_24 h know_30 (fun (h : K_31.ok _) => split_know c_25 h know_31 (fun (h : K_32.ok _) => split_know c_26 h know_32 (fun (h : K_33.ok _) => split_know c_27 h know_33 (fun (h : K_34.ok _) => split_know c_28 h know_34 (fun (h : K_35.ok _) => ⟨K_35, [(250, an_2)], h, leaf_35⟩))))))))) (fun (h : K_36.ok _) => split_know c_29 h know_36 (fun (h : K_37.ok _) => split_know c_30 h know_37 (fun (h : K_38.ok _) => split_know c_31 h know_38 (fun (h : K_39.ok _) => split_know c_32 h know_39 (fun (h : K_40.ok _) => split_know c_33 h know_40 (fun (h : K_41.ok _) => split_know c_34 h know_41 (fun (h : K_42.ok _) => split_know c_35 h know_42 (fun (h : K_43.ok _) => split_know c_36 h know_43 (fun (h : K_44.ok _) => ⟨K_44, [(250, an_3)], h, leaf_44⟩)))))))))))))

def zeros : Env := ⟨fun _ => 0, fun _ => false, fun _ _ => 0, fun _ _ => true, fun _ => .bool false, fun _ => ⟨⟨0, 0, none⟩, .cells #[] 0 (0, 0)⟩⟩
set_option maxRecDepth 100000 in
theorem lifted5 (os : Os) (started : os.Started) (H : Type) (enc : TypeId × Value → H) :
    ReturnsInHanded {} Try.checked os 5 .any (Rows.flowFourSpec.pre6 enc Try.prog Try.f5 Rows.flowFourRow.domain false) (Rows.flowFourSpec.post enc Try.prog Try.f5 false true false false) := by
  refine returnsInHanded_of_change (C := Try.checked) own started (by kernel_rfl) Try.func5
    (ChangeSpec.witness6 (enc := enc) (C := Try.checked) false ⟨#[], (ss5.map (SV.den zeros fun _ => 0)).toArray, []⟩ 8 (by kernel_rfl) (by kernel_rfl) (by kernel_rfl) (by kernel_rfl)) ?_
  intro W base args ds gs before hval0 hW _ _
  have hval : ∀ (j : Nat) t v, Try.f5.params[j]? = some t → args[j]? = some v → Value.okWide Try.prog W .any base t v := hval0
  have hW' := hW
  obtain ⟨p, q, hA0, hV, rfl, _, _⟩ := hW
  have hA : DataW.TrodAll enc Try.prog W 0 (fun _ => true) true Try.f5.params.toList args.toList ds p := hA0
  obtain ⟨rfl, rfl⟩ := trodVars_none hV
  have hA1 := hA
  rw [Try.params5] at hA1
  obtain ⟨v0, v1, v2, d0, d1, d2, p0, p1, p2, _, rfl, _, _, _, _⟩ := trodAll_three hA1
  refine (rows_vc (r := .any) (base := base) mixed sok12 args5 plan5 (fun j t v ht hv => hval j t v (by simpa using ht) hv) hA).mono fun e W' ⟨⟨v, he, hv⟩, hb⟩ => ?_
  subst hv
  subst he
  exact ⟨_, rfl, law_post (tb := 4) laid rfl (by rw [Try.params5]; intro t ht; simp at ht; first | (subst ht; exact ⟨by kernel_rfl, of_decide_eq_true (by kernel_rfl)⟩) | (rcases ht with rfl | rfl <;> exact ⟨by kernel_rfl, of_decide_eq_true (by kernel_rfl)⟩) | (rcases ht with rfl | rfl | rfl <;> exact ⟨by kernel_rfl, of_decide_eq_true (by kernel_rfl)⟩)) rfl Try.underlying4 hW' hA hb ⟨rfl, rfl, rfl⟩⟩

theorem flowFour_holds : Rows.FlowFourSaid :=
  OpenClaim.holds_of_wide 5 Try.f5 rfl rfl rfl rfl rfl rfl rfl ⟨rfl, rfl, rfl, rfl, rfl⟩ rfl rfl rfl rfl rfl (by kernel_rfl) Try.func5 (by kernel_rfl)
    (of_decide_eq_true (by kernel_rfl)) (by unfold Func.isWrapper; first | (rw [if_pos (by decide +kernel)]; kernel_rfl) | (rw [if_neg (by decide +kernel)]; exact ⟨rfl, rfl⟩))
    (fun os started H enc _ => lifted5 os started H enc)
#print axioms flowFour_holds
end Go.Proofs.Ythehpoipeapiaaa
