/- For every input HeaderMakes answers true. -/
import Derived.Test.YtolennlpkpkhhaaRows
import Derived.Test.YtolennlpkpkhhaaSx24
namespace Go.Proofs.Ytolennlpkpkhhaa
open Go.ChangeShapes Go.WideShapes Go.ChangeAt Go.RowKit Go.Sx

theorem own : ownKnob Try.prog.godebug = none := by kernel_rfl
theorem laid : laidOutB Try.prog = true := by kernel_rfl
theorem mixed : Try.prog.follows .mixedOrders = true := by kernel_rfl

def v20 : ST := .v (.c (.cb (.or (.and (.cmp .geq (.iv 0) (.lit (.ofNat 0))) (.cmp .leq (.iv 0) (.lit (.ofNat 4)))) (.cmp .eql (.iv 0) (.lit (.ofNat 7))))))
def ss20 : List SV := [.c (.ci .i64 (.iv 0))]
def ks20 : List LK := [.i .i64]
theorem args20 : argTs Try.prog Try.f20.params.toList 0 = some (ss20, ks20) := by kernel_rfl
theorem tree20 : tree Try.prog 12 (sumsIn []) 300 20 ss20 bare 0 ⟨ks20.map LK.rg, []⟩ = .leaf v20 := by kernel_rfl
def sums20 : List Sm := ⟨20, ss20, ks20, v20⟩ :: []
theorem sok20 : SumsOk Try.prog sums20 := sums_cons mixed sums_nil args20 tree20 (by kernel_rfl)
def x11_9 : X := .not (.or (.and (.cmp .geq (.iv 0) (.lit (.ofNat 0))) (.cmp .leq (.iv 0) (.lit (.ofNat 4)))) (.cmp .eql (.iv 0) (.lit (.ofNat 7))))
def x11_12 : X := .bin .quo .i64 (.iv 2) (.lit (.ofNat 16384))
def x11_14 : X := .cmp .eql x11_12 (.lit (.ofNat 1))
def x11_15 : X := .not x11_14
def x11_17 : X := .cmp .eql x11_12 (.lit (.ofNat 2))
def x11_19 : X := .not x11_17
def x11_20 : X := .cmp .eql x11_12 (.lit (.ofNat 4))
def x11_23 : X := .not x11_20
def x11_25 : X := .cmp .eql x11_12 (.lit (.ofNat 8))
def x11_30 : X := .not x11_25
def x11_32 : X := .cmp .eql x11_12 (.lit (.ofNat 16))
def x11_53 : X := .cmp .geq (.ite x11_14 (.lit (.ofNat 0)) (.ite (.and x11_15 x11_17) (.lit (.ofNat 1)) (.ite (.and x11_15 (.and x11_19 x11_20)) (.lit (.ofNat 2)) (.ite (.and x11_15 (.and x11_19 (.and x11_23 x11_25))) (.lit (.ofNat 3)) (.ite (.and x11_15 (.and x11_19 (.and x11_23 (.and x11_30 x11_32)))) (.lit (.ofNat 4)) (.ite (.and x11_15 (.and x11_19 (.and x11_23 (.and x11_30 (.and (.not x11_32) (.cmp .eql x11_12 (.lit (.ofNat 32)))))))) (.lit (.ofNat 5)) (.lit (.negSucc 0)))))))) (.lit (.ofNat 0))
def x11_60 : X := .bin .quo .i64 (.iv 3) (.lit (.ofNat 8192))
def x11_61 : X := .cmp .eql x11_60 (.lit (.ofNat 1))
def x11_62 : X := .not x11_61
def x11_63 : X := .cmp .eql x11_60 (.lit (.ofNat 2))
def x11_65 : X := .not x11_63
def x11_66 : X := .cmp .eql x11_60 (.lit (.ofNat 4))
def x11_69 : X := .not x11_66
def x11_70 : X := .cmp .eql x11_60 (.lit (.ofNat 8))
def x11_74 : X := .not x11_70
def x11_75 : X := .cmp .eql x11_60 (.lit (.ofNat 16))
def x11_93 : X := .cmp .geq (.ite x11_61 (.lit (.ofNat 0)) (.ite (.and x11_62 x11_63) (.lit (.ofNat 1)) (.ite (.and x11_62 (.and x11_65 x11_66)) (.lit (.ofNat 2)) (.ite (.and x11_62 (.and x11_65 (.and x11_69 x11_70))) (.lit (.ofNat 3)) (.ite (.and x11_62 (.and x11_65 (.and x11_69 (.and x11_74 x11_75)))) (.lit (.ofNat 4)) (.ite (.and x11_62 (.and x11_65 (.and x11_69 (.and x11_74 (.and (.not x11_75) (.cmp .eql x11_60 (.lit (.ofNat 32)))))))) (.lit (.ofNat 5)) (.lit (.negSucc 0)))))))) (.lit (.ofNat 0))
def x11_102 : X := .or (.or (.not (.and x11_53 (.cmp .eql (.bin .rem .i64 (.iv 2) (.lit (.ofNat 16384))) (.lit (.ofNat 0))))) (.not (.and x11_93 (.cmp .eql (.bin .rem .i64 (.iv 3) (.lit (.ofNat 8192))) (.lit (.ofNat 0)))))) (.and (.bv 8) (.cmp .neq (.iv 3) (.lit (.ofNat 8192))))
def v11 : ST := .v (.c (.ci .i64 (.ite (.or x11_9 (.or x11_102 (.or (.or (.cmp .lss (.iv 1) (.lit (.ofNat 0))) (.cmp .gtr (.iv 1) (.lit (.ofNat 15)))) (.and (.not (.bv 7)) (.cmp .neq (.iv 1) (.lit (.ofNat 0))))))) (.ite x11_9 (.lit (.ofNat 6)) (.ite x11_102 (.lit (.ofNat 5)) (.lit (.ofNat 1)))) (.lit (.ofNat 0)))))
def ss11 : List SV := [.agg [.ci .i64 (.iv 0), .ci .i64 (.iv 1), .ci .i64 (.iv 2), .ci .i64 (.iv 3), .cb (.bv 4), .cb (.bv 5), .cb (.bv 6), .cb (.bv 7), .cb (.bv 8)]]
def ks11 : List LK := [.i .i64, .i .i64, .i .i64, .i .i64, .b, .b, .b, .b, .b]
theorem args11 : argTs Try.prog Try.f11.params.toList 0 = some (ss11, ks11) := by kernel_rfl
theorem tree11 : tree Try.prog 12 (sumsIn sums20) 300 11 ss11 bare 0 ⟨ks11.map LK.rg, []⟩ = .leaf v11 := by kernel_rfl
def sums11 : List Sm := ⟨11, ss11, ks11, v11⟩ :: sums20
theorem sok11 : SumsOk Try.prog sums11 := sums_cons mixed sok20 args11 tree11 (by kernel_rfl)
def v10 : ST := .v (.c (.ci .i64 (.ite (.and (.and (.and (.and (.and (.cmp .neq (.iv 0) (.lit (.ofNat 0))) (.cmp .neq (.iv 0) (.lit (.ofNat 1)))) (.cmp .neq (.iv 0) (.lit (.ofNat 2)))) (.cmp .neq (.iv 0) (.lit (.ofNat 3)))) (.cmp .neq (.iv 0) (.lit (.ofNat 4)))) (.cmp .neq (.iv 0) (.lit (.ofNat 7)))) (.lit (.ofNat 6)) (.ite (.or (.or (.cmp .neq (.ite (.cmp .lss (.lit (.ofNat 16384)) (.iv 2)) (.ite (.cmp .lss (.lit (.ofNat 32768)) (.iv 2)) (.ite (.cmp .lss (.lit (.ofNat 65536)) (.iv 2)) (.ite (.cmp .lss (.lit (.ofNat 131072)) (.iv 2)) (.ite (.cmp .lss (.lit (.ofNat 262144)) (.iv 2)) (.lit (.ofNat 524288)) (.lit (.ofNat 262144))) (.lit (.ofNat 131072))) (.lit (.ofNat 65536))) (.lit (.ofNat 32768))) (.lit (.ofNat 16384))) (.iv 2)) (.cmp .neq (.ite (.cmp .lss (.lit (.ofNat 8192)) (.iv 3)) (.ite (.cmp .lss (.lit (.ofNat 16384)) (.iv 3)) (.ite (.cmp .lss (.lit (.ofNat 32768)) (.iv 3)) (.ite (.cmp .lss (.lit (.ofNat 65536)) (.iv 3)) (.ite (.cmp .lss (.lit (.ofNat 131072)) (.iv 3)) (.lit (.ofNat 262144)) (.lit (.ofNat 131072))) (.lit (.ofNat 65536))) (.lit (.ofNat 32768))) (.lit (.ofNat 16384))) (.lit (.ofNat 8192))) (.iv 3))) (.and (.bv 8) (.cmp .neq (.iv 3) (.lit (.ofNat 8192))))) (.lit (.ofNat 5)) (.ite (.or (.or (.cmp .lss (.iv 1) (.lit (.ofNat 0))) (.cmp .gtr (.iv 1) (.lit (.ofNat 15)))) (.and (.cmp .gtr (.iv 1) (.lit (.ofNat 0))) (.not (.bv 7)))) (.lit (.ofNat 1)) (.lit (.ofNat 0)))))))
def ss10 : List SV := [.agg [.ci .i64 (.iv 0), .ci .i64 (.iv 1), .ci .i64 (.iv 2), .ci .i64 (.iv 3), .cb (.bv 4), .cb (.bv 5), .cb (.bv 6), .cb (.bv 7), .cb (.bv 8)]]
def ks10 : List LK := [.i .i64, .i .i64, .i .i64, .i .i64, .b, .b, .b, .b, .b]
theorem args10 : argTs Try.prog Try.f10.params.toList 0 = some (ss10, ks10) := by kernel_rfl
theorem tree10 : tree Try.prog 12 (sumsIn sums11) 300 10 ss10 bare 0 ⟨ks10.map LK.rg, []⟩ = .leaf v10 := by kernel_rfl
def e10_K : Known := ⟨ks10.map LK.rg, []⟩
def e10_g : X := .cmp .eql v10.num v11.num
def e10_q0 : X := .cmp .geq (.ite (.cmp .eql (.bin .quo .i64 (.iv 2) (.lit (.ofNat 16384))) (.lit (.ofNat 1))) (.lit (.ofNat 0)) (.ite (.and (.not (.cmp .eql (.bin .quo .i64 (.iv 2) (.lit (.ofNat 16384))) (.lit (.ofNat 1)))) (.cmp .eql (.bin .quo .i64 (.iv 2) (.lit (.ofNat 16384))) (.lit (.ofNat 2)))) (.lit (.ofNat 1)) (.ite (.and (.not (.cmp .eql (.bin .quo .i64 (.iv 2) (.lit (.ofNat 16384))) (.lit (.ofNat 1)))) (.and (.not (.cmp .eql (.bin .quo .i64 (.iv 2) (.lit (.ofNat 16384))) (.lit (.ofNat 2)))) (.cmp .eql (.bin .quo .i64 (.iv 2) (.lit (.ofNat 16384))) (.lit (.ofNat 4))))) (.lit (.ofNat 2)) (.ite (.and (.not (.cmp .eql (.bin .quo .i64 (.iv 2) (.lit (.ofNat 16384))) (.lit (.ofNat 1)))) (.and (.not (.cmp .eql (.bin .quo .i64 (.iv 2) (.lit (.ofNat 16384))) (.lit (.ofNat 2)))) (.and (.not (.cmp .eql (.bin .quo .i64 (.iv 2) (.lit (.ofNat 16384))) (.lit (.ofNat 4)))) (.cmp .eql (.bin .quo .i64 (.iv 2) (.lit (.ofNat 16384))) (.lit (.ofNat 8)))))) (.lit (.ofNat 3)) (.ite (.and (.not (.cmp .eql (.bin .quo .i64 (.iv 2) (.lit (.ofNat 16384))) (.lit (.ofNat 1)))) (.and (.not (.cmp .eql (.bin .quo .i64 (.iv 2) (.lit (.ofNat 16384))) (.lit (.ofNat 2)))) (.and (.not (.cmp .eql (.bin .quo .i64 (.iv 2) (.lit (.ofNat 16384))) (.lit (.ofNat 4)))) (.and (.not (.cmp .eql (.bin .quo .i64 (.iv 2) (.lit (.ofNat 16384))) (.lit (.ofNat 8)))) (.cmp .eql (.bin .quo .i64 (.iv 2) (.lit (.ofNat 16384))) (.lit (.ofNat 16))))))) (.lit (.ofNat 4)) (.ite (.and (.not (.cmp .eql (.bin .quo .i64 (.iv 2) (.lit (.ofNat 16384))) (.lit (.ofNat 1)))) (.and (.not (.cmp .eql (.bin .quo .i64 (.iv 2) (.lit (.ofNat 16384))) (.lit (.ofNat 2)))) (.and (.not (.cmp .eql (.bin .quo .i64 (.iv 2) (.lit (.ofNat 16384))) (.lit (.ofNat 4)))) (.and (.not (.cmp .eql (.bin .quo .i64 (.iv 2) (.lit (.ofNat 16384))) (.lit (.ofNat 8)))) (.and (.not (.cmp .eql (.bin .quo .i64 (.iv 2) (.lit (.ofNat 16384))) (.lit (.ofNat 16)))) (.cmp .eql (.bin .quo .i64 (.iv 2) (.lit (.ofNat 16384))) (.lit (.ofNat 32)))))))) (.lit (.ofNat 5)) (.lit (.negSucc 0)))))))) (.lit (.ofNat 0))
def e10_K0 : Known := e10_K.assume e10_q0 true
def e10_K1 : Known := e10_K.assume e10_q0 false
def e10_q2 : X := .cmp .eql (.bin .rem .i64 (.iv 2) (.lit (.ofNat 16384))) (.lit (.ofNat 0))
def e10_K2 : Known := e10_K0.assume e10_q2 true
def e10_K3 : Known := e10_K0.assume e10_q2 false
def e10_q4 : X := .not (.cmp .neq (.ite (.cmp .lss (.lit (.ofNat 16384)) (.iv 2)) (.ite (.cmp .lss (.lit (.ofNat 32768)) (.iv 2)) (.ite (.cmp .lss (.lit (.ofNat 65536)) (.iv 2)) (.ite (.cmp .lss (.lit (.ofNat 131072)) (.iv 2)) (.ite (.cmp .lss (.lit (.ofNat 262144)) (.iv 2)) (.lit (.ofNat 524288)) (.lit (.ofNat 262144))) (.lit (.ofNat 131072))) (.lit (.ofNat 65536))) (.lit (.ofNat 32768))) (.lit (.ofNat 16384))) (.iv 2))
def e10_K4 : Known := e10_K2.assume e10_q4 true
def e10_q5 : X := .cmp .eql (.iv 2) (.lit (.ofNat 16384))
def e10_K5 : Known := e10_K2.assume e10_q5 true
def e10_K6 : Known := e10_K2.assume e10_q5 false
theorem e10_L7 : X.prove 300 1000 e10_K5 e10_q4 = true := by kernel_rfl
def e10_q8 : X := .cmp .eql (.iv 2) (.lit (.ofNat 32768))
def e10_K8 : Known := e10_K6.assume e10_q8 true
def e10_K9 : Known := e10_K6.assume e10_q8 false
theorem e10_L10 : X.prove 300 1000 e10_K8 e10_q4 = true := by kernel_rfl
def e10_q11 : X := .cmp .eql (.iv 2) (.lit (.ofNat 65536))
def e10_K11 : Known := e10_K9.assume e10_q11 true
def e10_K12 : Known := e10_K9.assume e10_q11 false
theorem e10_L13 : X.prove 300 1000 e10_K11 e10_q4 = true := by kernel_rfl
def e10_q14 : X := .cmp .eql (.iv 2) (.lit (.ofNat 131072))
def e10_K14 : Known := e10_K12.assume e10_q14 true
def e10_K15 : Known := e10_K12.assume e10_q14 false
theorem e10_L16 : X.prove 300 1000 e10_K14 e10_q4 = true := by kernel_rfl
def e10_q17 : X := .cmp .eql (.iv 2) (.lit (.ofNat 262144))
def e10_K17 : Known := e10_K15.assume e10_q17 true
def e10_K18 : Known := e10_K15.assume e10_q17 false
theorem e10_L19 : X.prove 300 1000 e10_K17 e10_q4 = true := by kernel_rfl
def e10_q20 : X := .cmp .eql (.iv 2) (.lit (.ofNat 524288))
def e10_K20 : Known := e10_K18.assume e10_q20 true
def e10_K21 : Known := e10_K18.assume e10_q20 false
theorem e10_L22 : X.prove 300 1000 e10_K20 e10_q4 = true := by kernel_rfl
def e10_q23 : X := .cmp .eql (.bin .quo .i64 (.iv 2) (.lit (.ofNat 16384))) (.lit (.ofNat 1))
def e10_K23 : Known := e10_K21.assume e10_q23 true
def e10_K24 : Known := e10_K21.assume e10_q23 false
def e10_q25 : X := .cmp .eql (.bin .rem .i64 (.iv 2) (.lit (.ofNat 16384))) (.lit (.ofNat 0))
def e10_K25 : Known := e10_K23.assume e10_q25 true
theorem e10_L26 : X.prove 300 1000 e10_K23 e10_q25 = true := by kernel_rfl
theorem e10_L27 : X.prove 300 1000 e10_K25 e10_q4 = true := by kernel_rfl
def e10_q28 : X := .cmp .eql (.bin .quo .i64 (.iv 2) (.lit (.ofNat 16384))) (.lit (.ofNat 2))
def e10_K28 : Known := e10_K24.assume e10_q28 true
def e10_K29 : Known := e10_K24.assume e10_q28 false
def e10_q30 : X := .cmp .eql (.bin .rem .i64 (.iv 2) (.lit (.ofNat 16384))) (.lit (.ofNat 0))
def e10_K30 : Known := e10_K28.assume e10_q30 true
theorem e10_L31 : X.prove 300 1000 e10_K28 e10_q30 = true := by kernel_rfl
theorem e10_L32 : X.prove 300 1000 e10_K30 e10_q4 = true := by kernel_rfl
def e10_q33 : X := .cmp .eql (.bin .quo .i64 (.iv 2) (.lit (.ofNat 16384))) (.lit (.ofNat 4))
def e10_K33 : Known := e10_K29.assume e10_q33 true
def e10_K34 : Known := e10_K29.assume e10_q33 false
def e10_q35 : X := .cmp .eql (.bin .rem .i64 (.iv 2) (.lit (.ofNat 16384))) (.lit (.ofNat 0))
def e10_K35 : Known := e10_K33.assume e10_q35 true
theorem e10_L36 : X.prove 300 1000 e10_K33 e10_q35 = true := by kernel_rfl
theorem e10_L37 : X.prove 300 1000 e10_K35 e10_q4 = true := by kernel_rfl
def e10_q38 : X := .cmp .eql (.bin .quo .i64 (.iv 2) (.lit (.ofNat 16384))) (.lit (.ofNat 8))
def e10_K38 : Known := e10_K34.assume e10_q38 true
def e10_K39 : Known := e10_K34.assume e10_q38 false
def e10_q40 : X := .cmp .eql (.bin .rem .i64 (.iv 2) (.lit (.ofNat 16384))) (.lit (.ofNat 0))
def e10_K40 : Known := e10_K38.assume e10_q40 true
theorem e10_L41 : X.prove 300 1000 e10_K38 e10_q40 = true := by kernel_rfl
theorem e10_L42 : X.prove 300 1000 e10_K40 e10_q4 = true := by kernel_rfl
def e10_q43 : X := .cmp .eql (.bin .quo .i64 (.iv 2) (.lit (.ofNat 16384))) (.lit (.ofNat 16))
def e10_K43 : Known := e10_K39.assume e10_q43 true
def e10_K44 : Known := e10_K39.assume e10_q43 false
def e10_q45 : X := .cmp .eql (.bin .rem .i64 (.iv 2) (.lit (.ofNat 16384))) (.lit (.ofNat 0))
def e10_K45 : Known := e10_K43.assume e10_q45 true
theorem e10_L46 : X.prove 300 1000 e10_K43 e10_q45 = true := by kernel_rfl
theorem e10_L47 : X.prove 300 1000 e10_K45 e10_q4 = true := by kernel_rfl
def e10_q48 : X := .cmp .eql (.bin .quo .i64 (.iv 2) (.lit (.ofNat 16384))) (.lit (.ofNat 32))
def e10_K48 : Known := e10_K44.assume e10_q48 true
def e10_K49 : Known := e10_K44.assume e10_q48 false
def e10_q50 : X := .cmp .eql (.bin .rem .i64 (.iv 2) (.lit (.ofNat 16384))) (.lit (.ofNat 0))
def e10_K50 : Known := e10_K48.assume e10_q50 true
theorem e10_L51 : X.prove 300 1000 e10_K48 e10_q50 = true := by kernel_rfl
theorem e10_L52 : X.prove 300 1000 e10_K50 e10_q4 = true := by kernel_rfl
theorem e10_L53 : X.prove 300 1000 e10_K49 e10_q4 = true := by kernel_rfl
def e10_q54 : X := .cmp .geq (.ite (.cmp .eql (.bin .quo .i64 (.iv 3) (.lit (.ofNat 8192))) (.lit (.ofNat 1))) (.lit (.ofNat 0)) (.ite (.and (.not (.cmp .eql (.bin .quo .i64 (.iv 3) (.lit (.ofNat 8192))) (.lit (.ofNat 1)))) (.cmp .eql (.bin .quo .i64 (.iv 3) (.lit (.ofNat 8192))) (.lit (.ofNat 2)))) (.lit (.ofNat 1)) (.ite (.and (.not (.cmp .eql (.bin .quo .i64 (.iv 3) (.lit (.ofNat 8192))) (.lit (.ofNat 1)))) (.and (.not (.cmp .eql (.bin .quo .i64 (.iv 3) (.lit (.ofNat 8192))) (.lit (.ofNat 2)))) (.cmp .eql (.bin .quo .i64 (.iv 3) (.lit (.ofNat 8192))) (.lit (.ofNat 4))))) (.lit (.ofNat 2)) (.ite (.and (.not (.cmp .eql (.bin .quo .i64 (.iv 3) (.lit (.ofNat 8192))) (.lit (.ofNat 1)))) (.and (.not (.cmp .eql (.bin .quo .i64 (.iv 3) (.lit (.ofNat 8192))) (.lit (.ofNat 2)))) (.and (.not (.cmp .eql (.bin .quo .i64 (.iv 3) (.lit (.ofNat 8192))) (.lit (.ofNat 4)))) (.cmp .eql (.bin .quo .i64 (.iv 3) (.lit (.ofNat 8192))) (.lit (.ofNat 8)))))) (.lit (.ofNat 3)) (.ite (.and (.not (.cmp .eql (.bin .quo .i64 (.iv 3) (.lit (.ofNat 8192))) (.lit (.ofNat 1)))) (.and (.not (.cmp .eql (.bin .quo .i64 (.iv 3) (.lit (.ofNat 8192))) (.lit (.ofNat 2)))) (.and (.not (.cmp .eql (.bin .quo .i64 (.iv 3) (.lit (.ofNat 8192))) (.lit (.ofNat 4)))) (.and (.not (.cmp .eql (.bin .quo .i64 (.iv 3) (.lit (.ofNat 8192))) (.lit (.ofNat 8)))) (.cmp .eql (.bin .quo .i64 (.iv 3) (.lit (.ofNat 8192))) (.lit (.ofNat 16))))))) (.lit (.ofNat 4)) (.ite (.and (.not (.cmp .eql (.bin .quo .i64 (.iv 3) (.lit (.ofNat 8192))) (.lit (.ofNat 1)))) (.and (.not (.cmp .eql (.bin .quo .i64 (.iv 3) (.lit (.ofNat 8192))) (.lit (.ofNat 2)))) (.and (.not (.cmp .eql (.bin .quo .i64 (.iv 3) (.lit (.ofNat 8192))) (.lit (.ofNat 4)))) (.and (.not (.cmp .eql (.bin .quo .i64 (.iv 3) (.lit (.ofNat 8192))) (.lit (.ofNat 8)))) (.and (.not (.cmp .eql (.bin .quo .i64 (.iv 3) (.lit (.ofNat 8192))) (.lit (.ofNat 16)))) (.cmp .eql (.bin .quo .i64 (.iv 3) (.lit (.ofNat 8192))) (.lit (.ofNat 32)))))))) (.lit (.ofNat 5)) (.lit (.negSucc 0)))))))) (.lit (.ofNat 0))
def e10_K54 : Known := e10_K4.assume e10_q54 true
def e10_K55 : Known := e10_K4.assume e10_q54 false
def e10_q56 : X := .cmp .eql (.bin .rem .i64 (.iv 3) (.lit (.ofNat 8192))) (.lit (.ofNat 0))
def e10_K56 : Known := e10_K54.assume e10_q56 true
def e10_K57 : Known := e10_K54.assume e10_q56 false
def e10_q58 : X := .not (.cmp .neq (.ite (.cmp .lss (.lit (.ofNat 8192)) (.iv 3)) (.ite (.cmp .lss (.lit (.ofNat 16384)) (.iv 3)) (.ite (.cmp .lss (.lit (.ofNat 32768)) (.iv 3)) (.ite (.cmp .lss (.lit (.ofNat 65536)) (.iv 3)) (.ite (.cmp .lss (.lit (.ofNat 131072)) (.iv 3)) (.lit (.ofNat 262144)) (.lit (.ofNat 131072))) (.lit (.ofNat 65536))) (.lit (.ofNat 32768))) (.lit (.ofNat 16384))) (.lit (.ofNat 8192))) (.iv 3))
def e10_K58 : Known := e10_K56.assume e10_q58 true
def e10_q59 : X := .cmp .eql (.iv 3) (.lit (.ofNat 8192))
def e10_K59 : Known := e10_K56.assume e10_q59 true
def e10_K60 : Known := e10_K56.assume e10_q59 false
theorem e10_L61 : X.prove 300 1000 e10_K59 e10_q58 = true := by kernel_rfl
def e10_q62 : X := .cmp .eql (.iv 3) (.lit (.ofNat 16384))
def e10_K62 : Known := e10_K60.assume e10_q62 true
def e10_K63 : Known := e10_K60.assume e10_q62 false
theorem e10_L64 : X.prove 300 1000 e10_K62 e10_q58 = true := by kernel_rfl
def e10_q65 : X := .cmp .eql (.iv 3) (.lit (.ofNat 32768))
def e10_K65 : Known := e10_K63.assume e10_q65 true
def e10_K66 : Known := e10_K63.assume e10_q65 false
theorem e10_L67 : X.prove 300 1000 e10_K65 e10_q58 = true := by kernel_rfl
def e10_q68 : X := .cmp .eql (.iv 3) (.lit (.ofNat 65536))
def e10_K68 : Known := e10_K66.assume e10_q68 true
def e10_K69 : Known := e10_K66.assume e10_q68 false
theorem e10_L70 : X.prove 300 1000 e10_K68 e10_q58 = true := by kernel_rfl
def e10_q71 : X := .cmp .eql (.iv 3) (.lit (.ofNat 131072))
def e10_K71 : Known := e10_K69.assume e10_q71 true
def e10_K72 : Known := e10_K69.assume e10_q71 false
theorem e10_L73 : X.prove 300 1000 e10_K71 e10_q58 = true := by kernel_rfl
def e10_q74 : X := .cmp .eql (.iv 3) (.lit (.ofNat 262144))
def e10_K74 : Known := e10_K72.assume e10_q74 true
def e10_K75 : Known := e10_K72.assume e10_q74 false
theorem e10_L76 : X.prove 300 1000 e10_K74 e10_q58 = true := by kernel_rfl
def e10_q77 : X := .cmp .eql (.bin .quo .i64 (.iv 3) (.lit (.ofNat 8192))) (.lit (.ofNat 1))
def e10_K77 : Known := e10_K75.assume e10_q77 true
def e10_K78 : Known := e10_K75.assume e10_q77 false
def e10_q79 : X := .cmp .eql (.bin .rem .i64 (.iv 3) (.lit (.ofNat 8192))) (.lit (.ofNat 0))
def e10_K79 : Known := e10_K77.assume e10_q79 true
theorem e10_L80 : X.prove 300 1000 e10_K77 e10_q79 = true := by kernel_rfl
theorem e10_L81 : X.prove 300 1000 e10_K79 e10_q58 = true := by kernel_rfl
def e10_q82 : X := .cmp .eql (.bin .quo .i64 (.iv 3) (.lit (.ofNat 8192))) (.lit (.ofNat 2))
def e10_K82 : Known := e10_K78.assume e10_q82 true
def e10_K83 : Known := e10_K78.assume e10_q82 false
def e10_q84 : X := .cmp .eql (.bin .rem .i64 (.iv 3) (.lit (.ofNat 8192))) (.lit (.ofNat 0))
def e10_K84 : Known := e10_K82.assume e10_q84 true
theorem e10_L85 : X.prove 300 1000 e10_K82 e10_q84 = true := by kernel_rfl
theorem e10_L86 : X.prove 300 1000 e10_K84 e10_q58 = true := by kernel_rfl
def e10_q87 : X := .cmp .eql (.bin .quo .i64 (.iv 3) (.lit (.ofNat 8192))) (.lit (.ofNat 4))
def e10_K87 : Known := e10_K83.assume e10_q87 true
def e10_K88 : Known := e10_K83.assume e10_q87 false
def e10_q89 : X := .cmp .eql (.bin .rem .i64 (.iv 3) (.lit (.ofNat 8192))) (.lit (.ofNat 0))
def e10_K89 : Known := e10_K87.assume e10_q89 true
theorem e10_L90 : X.prove 300 1000 e10_K87 e10_q89 = true := by kernel_rfl
theorem e10_L91 : X.prove 300 1000 e10_K89 e10_q58 = true := by kernel_rfl
def e10_q92 : X := .cmp .eql (.bin .quo .i64 (.iv 3) (.lit (.ofNat 8192))) (.lit (.ofNat 8))
def e10_K92 : Known := e10_K88.assume e10_q92 true
def e10_K93 : Known := e10_K88.assume e10_q92 false
def e10_q94 : X := .cmp .eql (.bin .rem .i64 (.iv 3) (.lit (.ofNat 8192))) (.lit (.ofNat 0))
def e10_K94 : Known := e10_K92.assume e10_q94 true
theorem e10_L95 : X.prove 300 1000 e10_K92 e10_q94 = true := by kernel_rfl
theorem e10_L96 : X.prove 300 1000 e10_K94 e10_q58 = true := by kernel_rfl
def e10_q97 : X := .cmp .eql (.bin .quo .i64 (.iv 3) (.lit (.ofNat 8192))) (.lit (.ofNat 16))
def e10_K97 : Known := e10_K93.assume e10_q97 true
def e10_K98 : Known := e10_K93.assume e10_q97 false
def e10_q99 : X := .cmp .eql (.bin .rem .i64 (.iv 3) (.lit (.ofNat 8192))) (.lit (.ofNat 0))
def e10_K99 : Known := e10_K97.assume e10_q99 true
theorem e10_L100 : X.prove 300 1000 e10_K97 e10_q99 = true := by kernel_rfl
theorem e10_L101 : X.prove 300 1000 e10_K99 e10_q58 = true := by kernel_rfl
def e10_q102 : X := .cmp .eql (.bin .quo .i64 (.iv 3) (.lit (.ofNat 8192))) (.lit (.ofNat 32))
def e10_K102 : Known := e10_K98.assume e10_q102 true
def e10_K103 : Known := e10_K98.assume e10_q102 false
def e10_q104 : X := .cmp .eql (.bin .rem .i64 (.iv 3) (.lit (.ofNat 8192))) (.lit (.ofNat 0))
def e10_K104 : Known := e10_K102.assume e10_q104 true
theorem e10_L105 : X.prove 300 1000 e10_K102 e10_q104 = true := by kernel_rfl
theorem e10_L106 : X.prove 300 1000 e10_K104 e10_q58 = true := by kernel_rfl
theorem e10_L107 : X.prove 300 1000 e10_K103 e10_q58 = true := by kernel_rfl
def e10_q108 : X := .bv 8
def e10_K108 : Known := e10_K58.assume e10_q108 true
def e10_K109 : Known := e10_K58.assume e10_q108 false
def e10_q110 : X := .cmp .eql (.iv 3) (.lit (.ofNat 8192))
def e10_K110 : Known := e10_K108.assume e10_q110 true
def e10_K111 : Known := e10_K108.assume e10_q110 false
def e10_q112 : X := .cmp .lss (.iv 1) (.lit (.ofNat 0))
def e10_K112 : Known := e10_K110.assume e10_q112 true
def e10_K113 : Known := e10_K110.assume e10_q112 false
def e10_q114 : X := .cmp .lss (.iv 0) (.lit (.ofNat 0))
def e10_K114 : Known := e10_K112.assume e10_q114 true
def e10_K115 : Known := e10_K112.assume e10_q114 false
theorem e10_L116 : X.prove 300 1000 e10_K114 e10_g = true := by kernel_rfl
def e10_q117 : X := .cmp .gtr (.iv 0) (.lit (.ofNat 7))
def e10_K117 : Known := e10_K115.assume e10_q117 true
def e10_K118 : Known := e10_K115.assume e10_q117 false
theorem e10_L119 : X.prove 300 1000 e10_K117 e10_g = true := by kernel_rfl
def e10_q120 : X := .cmp .eql (.iv 0) (.lit (.ofNat 0))
def e10_K120 : Known := e10_K118.assume e10_q120 true
def e10_K121 : Known := e10_K118.assume e10_q120 false
theorem e10_L122 : X.prove 300 1000 e10_K120 e10_g = true := by kernel_rfl
def e10_q123 : X := .cmp .eql (.iv 0) (.lit (.ofNat 1))
def e10_K123 : Known := e10_K121.assume e10_q123 true
def e10_K124 : Known := e10_K121.assume e10_q123 false
theorem e10_L125 : X.prove 300 1000 e10_K123 e10_g = true := by kernel_rfl
def e10_q126 : X := .cmp .eql (.iv 0) (.lit (.ofNat 2))
def e10_K126 : Known := e10_K124.assume e10_q126 true
def e10_K127 : Known := e10_K124.assume e10_q126 false
theorem e10_L128 : X.prove 300 1000 e10_K126 e10_g = true := by kernel_rfl
def e10_q129 : X := .cmp .eql (.iv 0) (.lit (.ofNat 3))
def e10_K129 : Known := e10_K127.assume e10_q129 true
def e10_K130 : Known := e10_K127.assume e10_q129 false
theorem e10_L131 : X.prove 300 1000 e10_K129 e10_g = true := by kernel_rfl
def e10_q132 : X := .cmp .eql (.iv 0) (.lit (.ofNat 4))
def e10_K132 : Known := e10_K130.assume e10_q132 true
def e10_K133 : Known := e10_K130.assume e10_q132 false
theorem e10_L134 : X.prove 300 1000 e10_K132 e10_g = true := by kernel_rfl
def e10_q135 : X := .cmp .eql (.iv 0) (.lit (.ofNat 5))
def e10_K135 : Known := e10_K133.assume e10_q135 true
def e10_K136 : Known := e10_K133.assume e10_q135 false
theorem e10_L137 : X.prove 300 1000 e10_K135 e10_g = true := by kernel_rfl
def e10_q138 : X := .cmp .eql (.iv 0) (.lit (.ofNat 6))
def e10_K138 : Known := e10_K136.assume e10_q138 true
def e10_K139 : Known := e10_K136.assume e10_q138 false
theorem e10_L140 : X.prove 300 1000 e10_K138 e10_g = true := by kernel_rfl
theorem e10_L141 : X.prove 300 1000 e10_K139 e10_g = true := by kernel_rfl
def e10_q142 : X := .cmp .gtr (.iv 1) (.lit (.ofNat 15))
def e10_K142 : Known := e10_K113.assume e10_q142 true
def e10_K143 : Known := e10_K113.assume e10_q142 false
def e10_q144 : X := .cmp .lss (.iv 0) (.lit (.ofNat 0))
def e10_K144 : Known := e10_K142.assume e10_q144 true
def e10_K145 : Known := e10_K142.assume e10_q144 false
theorem e10_L146 : X.prove 300 1000 e10_K144 e10_g = true := by kernel_rfl
def e10_q147 : X := .cmp .gtr (.iv 0) (.lit (.ofNat 7))
def e10_K147 : Known := e10_K145.assume e10_q147 true
def e10_K148 : Known := e10_K145.assume e10_q147 false
theorem e10_L149 : X.prove 300 1000 e10_K147 e10_g = true := by kernel_rfl
def e10_q150 : X := .cmp .eql (.iv 0) (.lit (.ofNat 0))
def e10_K150 : Known := e10_K148.assume e10_q150 true
def e10_K151 : Known := e10_K148.assume e10_q150 false
theorem e10_L152 : X.prove 300 1000 e10_K150 e10_g = true := by kernel_rfl
def e10_q153 : X := .cmp .eql (.iv 0) (.lit (.ofNat 1))
def e10_K153 : Known := e10_K151.assume e10_q153 true
def e10_K154 : Known := e10_K151.assume e10_q153 false
theorem e10_L155 : X.prove 300 1000 e10_K153 e10_g = true := by kernel_rfl
def e10_q156 : X := .cmp .eql (.iv 0) (.lit (.ofNat 2))
def e10_K156 : Known := e10_K154.assume e10_q156 true
def e10_K157 : Known := e10_K154.assume e10_q156 false
theorem e10_L158 : X.prove 300 1000 e10_K156 e10_g = true := by kernel_rfl
def e10_q159 : X := .cmp .eql (.iv 0) (.lit (.ofNat 3))
def e10_K159 : Known := e10_K157.assume e10_q159 true
def e10_K160 : Known := e10_K157.assume e10_q159 false
theorem e10_L161 : X.prove 300 1000 e10_K159 e10_g = true := by kernel_rfl
def e10_q162 : X := .cmp .eql (.iv 0) (.lit (.ofNat 4))
def e10_K162 : Known := e10_K160.assume e10_q162 true
def e10_K163 : Known := e10_K160.assume e10_q162 false
theorem e10_L164 : X.prove 300 1000 e10_K162 e10_g = true := by kernel_rfl
def e10_q165 : X := .cmp .eql (.iv 0) (.lit (.ofNat 5))
def e10_K165 : Known := e10_K163.assume e10_q165 true
def e10_K166 : Known := e10_K163.assume e10_q165 false
theorem e10_L167 : X.prove 300 1000 e10_K165 e10_g = true := by kernel_rfl
def e10_q168 : X := .cmp .eql (.iv 0) (.lit (.ofNat 6))
def e10_K168 : Known := e10_K166.assume e10_q168 true
def e10_K169 : Known := e10_K166.assume e10_q168 false
theorem e10_L170 : X.prove 300 1000 e10_K168 e10_g = true := by kernel_rfl
theorem e10_L171 : X.prove 300 1000 e10_K169 e10_g = true := by kernel_rfl
def e10_q172 : X := .bv 7
def e10_K172 : Known := e10_K143.assume e10_q172 true
def e10_K173 : Known := e10_K143.assume e10_q172 false
def e10_q174 : X := .cmp .lss (.iv 0) (.lit (.ofNat 0))
def e10_K174 : Known := e10_K172.assume e10_q174 true
def e10_K175 : Known := e10_K172.assume e10_q174 false
theorem e10_L176 : X.prove 300 1000 e10_K174 e10_g = true := by kernel_rfl
def e10_q177 : X := .cmp .gtr (.iv 0) (.lit (.ofNat 7))
def e10_K177 : Known := e10_K175.assume e10_q177 true
def e10_K178 : Known := e10_K175.assume e10_q177 false
theorem e10_L179 : X.prove 300 1000 e10_K177 e10_g = true := by kernel_rfl
def e10_q180 : X := .cmp .eql (.iv 0) (.lit (.ofNat 0))
def e10_K180 : Known := e10_K178.assume e10_q180 true
def e10_K181 : Known := e10_K178.assume e10_q180 false
theorem e10_L182 : X.prove 300 1000 e10_K180 e10_g = true := by kernel_rfl
def e10_q183 : X := .cmp .eql (.iv 0) (.lit (.ofNat 1))
def e10_K183 : Known := e10_K181.assume e10_q183 true
def e10_K184 : Known := e10_K181.assume e10_q183 false
theorem e10_L185 : X.prove 300 1000 e10_K183 e10_g = true := by kernel_rfl
def e10_q186 : X := .cmp .eql (.iv 0) (.lit (.ofNat 2))
def e10_K186 : Known := e10_K184.assume e10_q186 true
def e10_K187 : Known := e10_K184.assume e10_q186 false
theorem e10_L188 : X.prove 300 1000 e10_K186 e10_g = true := by kernel_rfl
def e10_q189 : X := .cmp .eql (.iv 0) (.lit (.ofNat 3))
def e10_K189 : Known := e10_K187.assume e10_q189 true
def e10_K190 : Known := e10_K187.assume e10_q189 false
theorem e10_L191 : X.prove 300 1000 e10_K189 e10_g = true := by kernel_rfl
def e10_q192 : X := .cmp .eql (.iv 0) (.lit (.ofNat 4))
def e10_K192 : Known := e10_K190.assume e10_q192 true
def e10_K193 : Known := e10_K190.assume e10_q192 false
theorem e10_L194 : X.prove 300 1000 e10_K192 e10_g = true := by kernel_rfl
def e10_q195 : X := .cmp .eql (.iv 0) (.lit (.ofNat 5))
def e10_K195 : Known := e10_K193.assume e10_q195 true
def e10_K196 : Known := e10_K193.assume e10_q195 false
theorem e10_L197 : X.prove 300 1000 e10_K195 e10_g = true := by kernel_rfl
def e10_q198 : X := .cmp .eql (.iv 0) (.lit (.ofNat 6))
def e10_K198 : Known := e10_K196.assume e10_q198 true
def e10_K199 : Known := e10_K196.assume e10_q198 false
theorem e10_L200 : X.prove 300 1000 e10_K198 e10_g = true := by kernel_rfl
theorem e10_L201 : X.prove 300 1000 e10_K199 e10_g = true := by kernel_rfl
def e10_q202 : X := .cmp .eql (.iv 1) (.lit (.ofNat 0))
def e10_K202 : Known := e10_K173.assume e10_q202 true
def e10_K203 : Known := e10_K173.assume e10_q202 false
def e10_q204 : X := .cmp .lss (.iv 0) (.lit (.ofNat 0))
def e10_K204 : Known := e10_K202.assume e10_q204 true
def e10_K205 : Known := e10_K202.assume e10_q204 false
theorem e10_L206 : X.prove 300 1000 e10_K204 e10_g = true := by kernel_rfl
def e10_q207 : X := .cmp .gtr (.iv 0) (.lit (.ofNat 7))
def e10_K207 : Known := e10_K205.assume e10_q207 true
def e10_K208 : Known := e10_K205.assume e10_q207 false
theorem e10_L209 : X.prove 300 1000 e10_K207 e10_g = true := by kernel_rfl
def e10_q210 : X := .cmp .eql (.iv 0) (.lit (.ofNat 0))
def e10_K210 : Known := e10_K208.assume e10_q210 true
def e10_K211 : Known := e10_K208.assume e10_q210 false
theorem e10_L212 : X.prove 300 1000 e10_K210 e10_g = true := by kernel_rfl
def e10_q213 : X := .cmp .eql (.iv 0) (.lit (.ofNat 1))
def e10_K213 : Known := e10_K211.assume e10_q213 true
def e10_K214 : Known := e10_K211.assume e10_q213 false
theorem e10_L215 : X.prove 300 1000 e10_K213 e10_g = true := by kernel_rfl
def e10_q216 : X := .cmp .eql (.iv 0) (.lit (.ofNat 2))
def e10_K216 : Known := e10_K214.assume e10_q216 true
def e10_K217 : Known := e10_K214.assume e10_q216 false
theorem e10_L218 : X.prove 300 1000 e10_K216 e10_g = true := by kernel_rfl
def e10_q219 : X := .cmp .eql (.iv 0) (.lit (.ofNat 3))
def e10_K219 : Known := e10_K217.assume e10_q219 true
def e10_K220 : Known := e10_K217.assume e10_q219 false
theorem e10_L221 : X.prove 300 1000 e10_K219 e10_g = true := by kernel_rfl
def e10_q222 : X := .cmp .eql (.iv 0) (.lit (.ofNat 4))
def e10_K222 : Known := e10_K220.assume e10_q222 true
def e10_K223 : Known := e10_K220.assume e10_q222 false
theorem e10_L224 : X.prove 300 1000 e10_K222 e10_g = true := by kernel_rfl
def e10_q225 : X := .cmp .eql (.iv 0) (.lit (.ofNat 5))
def e10_K225 : Known := e10_K223.assume e10_q225 true
def e10_K226 : Known := e10_K223.assume e10_q225 false
theorem e10_L227 : X.prove 300 1000 e10_K225 e10_g = true := by kernel_rfl
def e10_q228 : X := .cmp .eql (.iv 0) (.lit (.ofNat 6))
def e10_K228 : Known := e10_K226.assume e10_q228 true
def e10_K229 : Known := e10_K226.assume e10_q228 false
theorem e10_L230 : X.prove 300 1000 e10_K228 e10_g = true := by kernel_rfl
theorem e10_L231 : X.prove 300 1000 e10_K229 e10_g = true := by kernel_rfl
def e10_q232 : X := .cmp .lss (.iv 0) (.lit (.ofNat 0))
def e10_K232 : Known := e10_K203.assume e10_q232 true
def e10_K233 : Known := e10_K203.assume e10_q232 false
theorem e10_L234 : X.prove 300 1000 e10_K232 e10_g = true := by kernel_rfl
def e10_q235 : X := .cmp .gtr (.iv 0) (.lit (.ofNat 7))
def e10_K235 : Known := e10_K233.assume e10_q235 true
def e10_K236 : Known := e10_K233.assume e10_q235 false
theorem e10_L237 : X.prove 300 1000 e10_K235 e10_g = true := by kernel_rfl
def e10_q238 : X := .cmp .eql (.iv 0) (.lit (.ofNat 0))
def e10_K238 : Known := e10_K236.assume e10_q238 true
def e10_K239 : Known := e10_K236.assume e10_q238 false
theorem e10_L240 : X.prove 300 1000 e10_K238 e10_g = true := by kernel_rfl
def e10_q241 : X := .cmp .eql (.iv 0) (.lit (.ofNat 1))
def e10_K241 : Known := e10_K239.assume e10_q241 true
def e10_K242 : Known := e10_K239.assume e10_q241 false
theorem e10_L243 : X.prove 300 1000 e10_K241 e10_g = true := by kernel_rfl
def e10_q244 : X := .cmp .eql (.iv 0) (.lit (.ofNat 2))
def e10_K244 : Known := e10_K242.assume e10_q244 true
def e10_K245 : Known := e10_K242.assume e10_q244 false
theorem e10_L246 : X.prove 300 1000 e10_K244 e10_g = true := by kernel_rfl
def e10_q247 : X := .cmp .eql (.iv 0) (.lit (.ofNat 3))
def e10_K247 : Known := e10_K245.assume e10_q247 true
def e10_K248 : Known := e10_K245.assume e10_q247 false
theorem e10_L249 : X.prove 300 1000 e10_K247 e10_g = true := by kernel_rfl
def e10_q250 : X := .cmp .eql (.iv 0) (.lit (.ofNat 4))
def e10_K250 : Known := e10_K248.assume e10_q250 true
def e10_K251 : Known := e10_K248.assume e10_q250 false
theorem e10_L252 : X.prove 300 1000 e10_K250 e10_g = true := by kernel_rfl
def e10_q253 : X := .cmp .eql (.iv 0) (.lit (.ofNat 5))
def e10_K253 : Known := e10_K251.assume e10_q253 true
def e10_K254 : Known := e10_K251.assume e10_q253 false
theorem e10_L255 : X.prove 300 1000 e10_K253 e10_g = true := by kernel_rfl
def e10_q256 : X := .cmp .eql (.iv 0) (.lit (.ofNat 6))
def e10_K256 : Known := e10_K254.assume e10_q256 true
def e10_K257 : Known := e10_K254.assume e10_q256 false
theorem e10_L258 : X.prove 300 1000 e10_K256 e10_g = true := by kernel_rfl
theorem e10_L259 : X.prove 300 1000 e10_K257 e10_g = true := by kernel_rfl
def e10_q260 : X := .cmp .lss (.iv 0) (.lit (.ofNat 0))
def e10_K260 : Known := e10_K111.assume e10_q260 true
def e10_K261 : Known := e10_K111.assume e10_q260 false
theorem e10_L262 : X.prove 300 1000 e10_K260 e10_g = true := by kernel_rfl
def e10_q263 : X := .cmp .gtr (.iv 0) (.lit (.ofNat 7))
def e10_K263 : Known := e10_K261.assume e10_q263 true
def e10_K264 : Known := e10_K261.assume e10_q263 false
theorem e10_L265 : X.prove 300 1000 e10_K263 e10_g = true := by kernel_rfl
def e10_q266 : X := .cmp .eql (.iv 0) (.lit (.ofNat 0))
def e10_K266 : Known := e10_K264.assume e10_q266 true
def e10_K267 : Known := e10_K264.assume e10_q266 false
theorem e10_L268 : X.prove 300 1000 e10_K266 e10_g = true := by kernel_rfl
def e10_q269 : X := .cmp .eql (.iv 0) (.lit (.ofNat 1))
def e10_K269 : Known := e10_K267.assume e10_q269 true
def e10_K270 : Known := e10_K267.assume e10_q269 false
theorem e10_L271 : X.prove 300 1000 e10_K269 e10_g = true := by kernel_rfl
def e10_q272 : X := .cmp .eql (.iv 0) (.lit (.ofNat 2))
def e10_K272 : Known := e10_K270.assume e10_q272 true
def e10_K273 : Known := e10_K270.assume e10_q272 false
theorem e10_L274 : X.prove 300 1000 e10_K272 e10_g = true := by kernel_rfl
def e10_q275 : X := .cmp .eql (.iv 0) (.lit (.ofNat 3))
def e10_K275 : Known := e10_K273.assume e10_q275 true
def e10_K276 : Known := e10_K273.assume e10_q275 false
theorem e10_L277 : X.prove 300 1000 e10_K275 e10_g = true := by kernel_rfl
def e10_q278 : X := .cmp .eql (.iv 0) (.lit (.ofNat 4))
def e10_K278 : Known := e10_K276.assume e10_q278 true
def e10_K279 : Known := e10_K276.assume e10_q278 false
theorem e10_L280 : X.prove 300 1000 e10_K278 e10_g = true := by kernel_rfl
def e10_q281 : X := .cmp .eql (.iv 0) (.lit (.ofNat 5))
def e10_K281 : Known := e10_K279.assume e10_q281 true
def e10_K282 : Known := e10_K279.assume e10_q281 false
theorem e10_L283 : X.prove 300 1000 e10_K281 e10_g = true := by kernel_rfl
def e10_q284 : X := .cmp .eql (.iv 0) (.lit (.ofNat 6))
def e10_K284 : Known := e10_K282.assume e10_q284 true
def e10_K285 : Known := e10_K282.assume e10_q284 false
theorem e10_L286 : X.prove 300 1000 e10_K284 e10_g = true := by kernel_rfl
theorem e10_L287 : X.prove 300 1000 e10_K285 e10_g = true := by kernel_rfl
def e10_q288 : X := .cmp .lss (.iv 1) (.lit (.ofNat 0))
def e10_K288 : Known := e10_K109.assume e10_q288 true
def e10_K289 : Known := e10_K109.assume e10_q288 false
def e10_q290 : X := .cmp .lss (.iv 0) (.lit (.ofNat 0))
def e10_K290 : Known := e10_K288.assume e10_q290 true
def e10_K291 : Known := e10_K288.assume e10_q290 false
theorem e10_L292 : X.prove 300 1000 e10_K290 e10_g = true := by kernel_rfl
def e10_q293 : X := .cmp .gtr (.iv 0) (.lit (.ofNat 7))
def e10_K293 : Known := e10_K291.assume e10_q293 true
def e10_K294 : Known := e10_K291.assume e10_q293 false
theorem e10_L295 : X.prove 300 1000 e10_K293 e10_g = true := by kernel_rfl
def e10_q296 : X := .cmp .eql (.iv 0) (.lit (.ofNat 0))
def e10_K296 : Known := e10_K294.assume e10_q296 true
def e10_K297 : Known := e10_K294.assume e10_q296 false
theorem e10_L298 : X.prove 300 1000 e10_K296 e10_g = true := by kernel_rfl
def e10_q299 : X := .cmp .eql (.iv 0) (.lit (.ofNat 1))
def e10_K299 : Known := e10_K297.assume e10_q299 true
def e10_K300 : Known := e10_K297.assume e10_q299 false
theorem e10_L301 : X.prove 300 1000 e10_K299 e10_g = true := by kernel_rfl
def e10_q302 : X := .cmp .eql (.iv 0) (.lit (.ofNat 2))
def e10_K302 : Known := e10_K300.assume e10_q302 true
def e10_K303 : Known := e10_K300.assume e10_q302 false
theorem e10_L304 : X.prove 300 1000 e10_K302 e10_g = true := by kernel_rfl
def e10_q305 : X := .cmp .eql (.iv 0) (.lit (.ofNat 3))
def e10_K305 : Known := e10_K303.assume e10_q305 true
def e10_K306 : Known := e10_K303.assume e10_q305 false
theorem e10_L307 : X.prove 300 1000 e10_K305 e10_g = true := by kernel_rfl
def e10_q308 : X := .cmp .eql (.iv 0) (.lit (.ofNat 4))
def e10_K308 : Known := e10_K306.assume e10_q308 true
def e10_K309 : Known := e10_K306.assume e10_q308 false
theorem e10_L310 : X.prove 300 1000 e10_K308 e10_g = true := by kernel_rfl
def e10_q311 : X := .cmp .eql (.iv 0) (.lit (.ofNat 5))
def e10_K311 : Known := e10_K309.assume e10_q311 true
def e10_K312 : Known := e10_K309.assume e10_q311 false
theorem e10_L313 : X.prove 300 1000 e10_K311 e10_g = true := by kernel_rfl
def e10_q314 : X := .cmp .eql (.iv 0) (.lit (.ofNat 6))
def e10_K314 : Known := e10_K312.assume e10_q314 true
def e10_K315 : Known := e10_K312.assume e10_q314 false
theorem e10_L316 : X.prove 300 1000 e10_K314 e10_g = true := by kernel_rfl
theorem e10_L317 : X.prove 300 1000 e10_K315 e10_g = true := by kernel_rfl
def e10_q318 : X := .cmp .gtr (.iv 1) (.lit (.ofNat 15))
def e10_K318 : Known := e10_K289.assume e10_q318 true
def e10_K319 : Known := e10_K289.assume e10_q318 false
def e10_q320 : X := .cmp .lss (.iv 0) (.lit (.ofNat 0))
def e10_K320 : Known := e10_K318.assume e10_q320 true
def e10_K321 : Known := e10_K318.assume e10_q320 false
theorem e10_L322 : X.prove 300 1000 e10_K320 e10_g = true := by kernel_rfl
def e10_q323 : X := .cmp .gtr (.iv 0) (.lit (.ofNat 7))
def e10_K323 : Known := e10_K321.assume e10_q323 true
def e10_K324 : Known := e10_K321.assume e10_q323 false
theorem e10_L325 : X.prove 300 1000 e10_K323 e10_g = true := by kernel_rfl
def e10_q326 : X := .cmp .eql (.iv 0) (.lit (.ofNat 0))
def e10_K326 : Known := e10_K324.assume e10_q326 true
def e10_K327 : Known := e10_K324.assume e10_q326 false
theorem e10_L328 : X.prove 300 1000 e10_K326 e10_g = true := by kernel_rfl
def e10_q329 : X := .cmp .eql (.iv 0) (.lit (.ofNat 1))
def e10_K329 : Known := e10_K327.assume e10_q329 true
def e10_K330 : Known := e10_K327.assume e10_q329 false
theorem e10_L331 : X.prove 300 1000 e10_K329 e10_g = true := by kernel_rfl
def e10_q332 : X := .cmp .eql (.iv 0) (.lit (.ofNat 2))
def e10_K332 : Known := e10_K330.assume e10_q332 true
def e10_K333 : Known := e10_K330.assume e10_q332 false
theorem e10_L334 : X.prove 300 1000 e10_K332 e10_g = true := by kernel_rfl
def e10_q335 : X := .cmp .eql (.iv 0) (.lit (.ofNat 3))
def e10_K335 : Known := e10_K333.assume e10_q335 true
def e10_K336 : Known := e10_K333.assume e10_q335 false
theorem e10_L337 : X.prove 300 1000 e10_K335 e10_g = true := by kernel_rfl
def e10_q338 : X := .cmp .eql (.iv 0) (.lit (.ofNat 4))
def e10_K338 : Known := e10_K336.assume e10_q338 true
def e10_K339 : Known := e10_K336.assume e10_q338 false
theorem e10_L340 : X.prove 300 1000 e10_K338 e10_g = true := by kernel_rfl
def e10_q341 : X := .cmp .eql (.iv 0) (.lit (.ofNat 5))
def e10_K341 : Known := e10_K339.assume e10_q341 true
def e10_K342 : Known := e10_K339.assume e10_q341 false
theorem e10_L343 : X.prove 300 1000 e10_K341 e10_g = true := by kernel_rfl
def e10_q344 : X := .cmp .eql (.iv 0) (.lit (.ofNat 6))
def e10_K344 : Known := e10_K342.assume e10_q344 true
def e10_K345 : Known := e10_K342.assume e10_q344 false
theorem e10_L346 : X.prove 300 1000 e10_K344 e10_g = true := by kernel_rfl
theorem e10_L347 : X.prove 300 1000 e10_K345 e10_g = true := by kernel_rfl
def e10_q348 : X := .bv 7
def e10_K348 : Known := e10_K319.assume e10_q348 true
def e10_K349 : Known := e10_K319.assume e10_q348 false
def e10_q350 : X := .cmp .lss (.iv 0) (.lit (.ofNat 0))
def e10_K350 : Known := e10_K348.assume e10_q350 true
def e10_K351 : Known := e10_K348.assume e10_q350 false
theorem e10_L352 : X.prove 300 1000 e10_K350 e10_g = true := by kernel_rfl
def e10_q353 : X := .cmp .gtr (.iv 0) (.lit (.ofNat 7))
def e10_K353 : Known := e10_K351.assume e10_q353 true
def e10_K354 : Known := e10_K351.assume e10_q353 false
theorem e10_L355 : X.prove 300 1000 e10_K353 e10_g = true := by kernel_rfl
def e10_q356 : X := .cmp .eql (.iv 0) (.lit (.ofNat 0))
def e10_K356 : Known := e10_K354.assume e10_q356 true
def e10_K357 : Known := e10_K354.assume e10_q356 false
theorem e10_L358 : X.prove 300 1000 e10_K356 e10_g = true := by kernel_rfl
def e10_q359 : X := .cmp .eql (.iv 0) (.lit (.ofNat 1))
def e10_K359 : Known := e10_K357.assume e10_q359 true
def e10_K360 : Known := e10_K357.assume e10_q359 false
theorem e10_L361 : X.prove 300 1000 e10_K359 e10_g = true := by kernel_rfl
def e10_q362 : X := .cmp .eql (.iv 0) (.lit (.ofNat 2))
def e10_K362 : Known := e10_K360.assume e10_q362 true
def e10_K363 : Known := e10_K360.assume e10_q362 false
theorem e10_L364 : X.prove 300 1000 e10_K362 e10_g = true := by kernel_rfl
def e10_q365 : X := .cmp .eql (.iv 0) (.lit (.ofNat 3))
def e10_K365 : Known := e10_K363.assume e10_q365 true
def e10_K366 : Known := e10_K363.assume e10_q365 false
theorem e10_L367 : X.prove 300 1000 e10_K365 e10_g = true := by kernel_rfl
def e10_q368 : X := .cmp .eql (.iv 0) (.lit (.ofNat 4))
def e10_K368 : Known := e10_K366.assume e10_q368 true
def e10_K369 : Known := e10_K366.assume e10_q368 false
theorem e10_L370 : X.prove 300 1000 e10_K368 e10_g = true := by kernel_rfl
def e10_q371 : X := .cmp .eql (.iv 0) (.lit (.ofNat 5))
def e10_K371 : Known := e10_K369.assume e10_q371 true
def e10_K372 : Known := e10_K369.assume e10_q371 false
theorem e10_L373 : X.prove 300 1000 e10_K371 e10_g = true := by kernel_rfl
def e10_q374 : X := .cmp .eql (.iv 0) (.lit (.ofNat 6))
def e10_K374 : Known := e10_K372.assume e10_q374 true
def e10_K375 : Known := e10_K372.assume e10_q374 false
theorem e10_L376 : X.prove 300 1000 e10_K374 e10_g = true := by kernel_rfl
theorem e10_L377 : X.prove 300 1000 e10_K375 e10_g = true := by kernel_rfl
def e10_q378 : X := .cmp .eql (.iv 1) (.lit (.ofNat 0))
def e10_K378 : Known := e10_K349.assume e10_q378 true
def e10_K379 : Known := e10_K349.assume e10_q378 false
def e10_q380 : X := .cmp .lss (.iv 0) (.lit (.ofNat 0))
def e10_K380 : Known := e10_K378.assume e10_q380 true
def e10_K381 : Known := e10_K378.assume e10_q380 false
theorem e10_L382 : X.prove 300 1000 e10_K380 e10_g = true := by kernel_rfl
def e10_q383 : X := .cmp .gtr (.iv 0) (.lit (.ofNat 7))
def e10_K383 : Known := e10_K381.assume e10_q383 true
def e10_K384 : Known := e10_K381.assume e10_q383 false
theorem e10_L385 : X.prove 300 1000 e10_K383 e10_g = true := by kernel_rfl
def e10_q386 : X := .cmp .eql (.iv 0) (.lit (.ofNat 0))
def e10_K386 : Known := e10_K384.assume e10_q386 true
def e10_K387 : Known := e10_K384.assume e10_q386 false
theorem e10_L388 : X.prove 300 1000 e10_K386 e10_g = true := by kernel_rfl
def e10_q389 : X := .cmp .eql (.iv 0) (.lit (.ofNat 1))
def e10_K389 : Known := e10_K387.assume e10_q389 true
def e10_K390 : Known := e10_K387.assume e10_q389 false
theorem e10_L391 : X.prove 300 1000 e10_K389 e10_g = true := by kernel_rfl
def e10_q392 : X := .cmp .eql (.iv 0) (.lit (.ofNat 2))
def e10_K392 : Known := e10_K390.assume e10_q392 true
def e10_K393 : Known := e10_K390.assume e10_q392 false
theorem e10_L394 : X.prove 300 1000 e10_K392 e10_g = true := by kernel_rfl
def e10_q395 : X := .cmp .eql (.iv 0) (.lit (.ofNat 3))
def e10_K395 : Known := e10_K393.assume e10_q395 true
def e10_K396 : Known := e10_K393.assume e10_q395 false
theorem e10_L397 : X.prove 300 1000 e10_K395 e10_g = true := by kernel_rfl
def e10_q398 : X := .cmp .eql (.iv 0) (.lit (.ofNat 4))
def e10_K398 : Known := e10_K396.assume e10_q398 true
def e10_K399 : Known := e10_K396.assume e10_q398 false
theorem e10_L400 : X.prove 300 1000 e10_K398 e10_g = true := by kernel_rfl
def e10_q401 : X := .cmp .eql (.iv 0) (.lit (.ofNat 5))
def e10_K401 : Known := e10_K399.assume e10_q401 true
def e10_K402 : Known := e10_K399.assume e10_q401 false
theorem e10_L403 : X.prove 300 1000 e10_K401 e10_g = true := by kernel_rfl
def e10_q404 : X := .cmp .eql (.iv 0) (.lit (.ofNat 6))
def e10_K404 : Known := e10_K402.assume e10_q404 true
def e10_K405 : Known := e10_K402.assume e10_q404 false
theorem e10_L406 : X.prove 300 1000 e10_K404 e10_g = true := by kernel_rfl
theorem e10_L407 : X.prove 300 1000 e10_K405 e10_g = true := by kernel_rfl
def e10_q408 : X := .cmp .lss (.iv 0) (.lit (.ofNat 0))
def e10_K408 : Known := e10_K379.assume e10_q408 true
def e10_K409 : Known := e10_K379.assume e10_q408 false
theorem e10_L410 : X.prove 300 1000 e10_K408 e10_g = true := by kernel_rfl
def e10_q411 : X := .cmp .gtr (.iv 0) (.lit (.ofNat 7))
def e10_K411 : Known := e10_K409.assume e10_q411 true
def e10_K412 : Known := e10_K409.assume e10_q411 false
theorem e10_L413 : X.prove 300 1000 e10_K411 e10_g = true := by kernel_rfl
def e10_q414 : X := .cmp .eql (.iv 0) (.lit (.ofNat 0))
def e10_K414 : Known := e10_K412.assume e10_q414 true
def e10_K415 : Known := e10_K412.assume e10_q414 false
theorem e10_L416 : X.prove 300 1000 e10_K414 e10_g = true := by kernel_rfl
def e10_q417 : X := .cmp .eql (.iv 0) (.lit (.ofNat 1))
def e10_K417 : Known := e10_K415.assume e10_q417 true
def e10_K418 : Known := e10_K415.assume e10_q417 false
theorem e10_L419 : X.prove 300 1000 e10_K417 e10_g = true := by kernel_rfl
def e10_q420 : X := .cmp .eql (.iv 0) (.lit (.ofNat 2))
def e10_K420 : Known := e10_K418.assume e10_q420 true
def e10_K421 : Known := e10_K418.assume e10_q420 false
theorem e10_L422 : X.prove 300 1000 e10_K420 e10_g = true := by kernel_rfl
def e10_q423 : X := .cmp .eql (.iv 0) (.lit (.ofNat 3))
def e10_K423 : Known := e10_K421.assume e10_q423 true
def e10_K424 : Known := e10_K421.assume e10_q423 false
theorem e10_L425 : X.prove 300 1000 e10_K423 e10_g = true := by kernel_rfl
def e10_q426 : X := .cmp .eql (.iv 0) (.lit (.ofNat 4))
def e10_K426 : Known := e10_K424.assume e10_q426 true
def e10_K427 : Known := e10_K424.assume e10_q426 false
theorem e10_L428 : X.prove 300 1000 e10_K426 e10_g = true := by kernel_rfl
def e10_q429 : X := .cmp .eql (.iv 0) (.lit (.ofNat 5))
def e10_K429 : Known := e10_K427.assume e10_q429 true
def e10_K430 : Known := e10_K427.assume e10_q429 false
theorem e10_L431 : X.prove 300 1000 e10_K429 e10_g = true := by kernel_rfl
def e10_q432 : X := .cmp .eql (.iv 0) (.lit (.ofNat 6))
def e10_K432 : Known := e10_K430.assume e10_q432 true
def e10_K433 : Known := e10_K430.assume e10_q432 false
theorem e10_L434 : X.prove 300 1000 e10_K432 e10_g = true := by kernel_rfl
theorem e10_L435 : X.prove 300 1000 e10_K433 e10_g = true := by kernel_rfl
def e10_q436 : X := .cmp .neq (.ite (.cmp .lss (.lit (.ofNat 8192)) (.iv 3)) (.ite (.cmp .lss (.lit (.ofNat 16384)) (.iv 3)) (.ite (.cmp .lss (.lit (.ofNat 32768)) (.iv 3)) (.ite (.cmp .lss (.lit (.ofNat 65536)) (.iv 3)) (.ite (.cmp .lss (.lit (.ofNat 131072)) (.iv 3)) (.lit (.ofNat 262144)) (.lit (.ofNat 131072))) (.lit (.ofNat 65536))) (.lit (.ofNat 32768))) (.lit (.ofNat 16384))) (.lit (.ofNat 8192))) (.iv 3)
def e10_K436 : Known := e10_K57.assume e10_q436 true
def e10_q437 : X := .cmp .eql (.iv 3) (.lit (.ofNat 8192))
def e10_K437 : Known := e10_K57.assume e10_q437 true
def e10_K438 : Known := e10_K57.assume e10_q437 false
theorem e10_L439 : X.prove 300 1000 e10_K437 e10_q436 = true := by kernel_rfl
def e10_q440 : X := .cmp .eql (.iv 3) (.lit (.ofNat 16384))
def e10_K440 : Known := e10_K438.assume e10_q440 true
def e10_K441 : Known := e10_K438.assume e10_q440 false
theorem e10_L442 : X.prove 300 1000 e10_K440 e10_q436 = true := by kernel_rfl
def e10_q443 : X := .cmp .eql (.iv 3) (.lit (.ofNat 32768))
def e10_K443 : Known := e10_K441.assume e10_q443 true
def e10_K444 : Known := e10_K441.assume e10_q443 false
theorem e10_L445 : X.prove 300 1000 e10_K443 e10_q436 = true := by kernel_rfl
def e10_q446 : X := .cmp .eql (.iv 3) (.lit (.ofNat 65536))
def e10_K446 : Known := e10_K444.assume e10_q446 true
def e10_K447 : Known := e10_K444.assume e10_q446 false
theorem e10_L448 : X.prove 300 1000 e10_K446 e10_q436 = true := by kernel_rfl
def e10_q449 : X := .cmp .eql (.iv 3) (.lit (.ofNat 131072))
def e10_K449 : Known := e10_K447.assume e10_q449 true
def e10_K450 : Known := e10_K447.assume e10_q449 false
theorem e10_L451 : X.prove 300 1000 e10_K449 e10_q436 = true := by kernel_rfl
def e10_q452 : X := .cmp .eql (.iv 3) (.lit (.ofNat 262144))
def e10_K452 : Known := e10_K450.assume e10_q452 true
def e10_K453 : Known := e10_K450.assume e10_q452 false
theorem e10_L454 : X.prove 300 1000 e10_K452 e10_q436 = true := by kernel_rfl
theorem e10_L455 : X.prove 300 1000 e10_K453 e10_q436 = true := by kernel_rfl
def e10_q456 : X := .cmp .lss (.iv 0) (.lit (.ofNat 0))
def e10_K456 : Known := e10_K436.assume e10_q456 true
def e10_K457 : Known := e10_K436.assume e10_q456 false
theorem e10_L458 : X.prove 300 1000 e10_K456 e10_g = true := by kernel_rfl
def e10_q459 : X := .cmp .gtr (.iv 0) (.lit (.ofNat 7))
def e10_K459 : Known := e10_K457.assume e10_q459 true
def e10_K460 : Known := e10_K457.assume e10_q459 false
theorem e10_L461 : X.prove 300 1000 e10_K459 e10_g = true := by kernel_rfl
def e10_q462 : X := .cmp .eql (.iv 0) (.lit (.ofNat 0))
def e10_K462 : Known := e10_K460.assume e10_q462 true
def e10_K463 : Known := e10_K460.assume e10_q462 false
theorem e10_L464 : X.prove 300 1000 e10_K462 e10_g = true := by kernel_rfl
def e10_q465 : X := .cmp .eql (.iv 0) (.lit (.ofNat 1))
def e10_K465 : Known := e10_K463.assume e10_q465 true
def e10_K466 : Known := e10_K463.assume e10_q465 false
theorem e10_L467 : X.prove 300 1000 e10_K465 e10_g = true := by kernel_rfl
def e10_q468 : X := .cmp .eql (.iv 0) (.lit (.ofNat 2))
def e10_K468 : Known := e10_K466.assume e10_q468 true
def e10_K469 : Known := e10_K466.assume e10_q468 false
theorem e10_L470 : X.prove 300 1000 e10_K468 e10_g = true := by kernel_rfl
def e10_q471 : X := .cmp .eql (.iv 0) (.lit (.ofNat 3))
def e10_K471 : Known := e10_K469.assume e10_q471 true
def e10_K472 : Known := e10_K469.assume e10_q471 false
theorem e10_L473 : X.prove 300 1000 e10_K471 e10_g = true := by kernel_rfl
def e10_q474 : X := .cmp .eql (.iv 0) (.lit (.ofNat 4))
def e10_K474 : Known := e10_K472.assume e10_q474 true
def e10_K475 : Known := e10_K472.assume e10_q474 false
theorem e10_L476 : X.prove 300 1000 e10_K474 e10_g = true := by kernel_rfl
def e10_q477 : X := .cmp .eql (.iv 0) (.lit (.ofNat 5))
def e10_K477 : Known := e10_K475.assume e10_q477 true
def e10_K478 : Known := e10_K475.assume e10_q477 false
theorem e10_L479 : X.prove 300 1000 e10_K477 e10_g = true := by kernel_rfl
def e10_q480 : X := .cmp .eql (.iv 0) (.lit (.ofNat 6))
def e10_K480 : Known := e10_K478.assume e10_q480 true
def e10_K481 : Known := e10_K478.assume e10_q480 false
theorem e10_L482 : X.prove 300 1000 e10_K480 e10_g = true := by kernel_rfl
theorem e10_L483 : X.prove 300 1000 e10_K481 e10_g = true := by kernel_rfl
def e10_q484 : X := .cmp .neq (.ite (.cmp .lss (.lit (.ofNat 8192)) (.iv 3)) (.ite (.cmp .lss (.lit (.ofNat 16384)) (.iv 3)) (.ite (.cmp .lss (.lit (.ofNat 32768)) (.iv 3)) (.ite (.cmp .lss (.lit (.ofNat 65536)) (.iv 3)) (.ite (.cmp .lss (.lit (.ofNat 131072)) (.iv 3)) (.lit (.ofNat 262144)) (.lit (.ofNat 131072))) (.lit (.ofNat 65536))) (.lit (.ofNat 32768))) (.lit (.ofNat 16384))) (.lit (.ofNat 8192))) (.iv 3)
def e10_K484 : Known := e10_K55.assume e10_q484 true
def e10_q485 : X := .cmp .eql (.iv 3) (.lit (.ofNat 8192))
def e10_K485 : Known := e10_K55.assume e10_q485 true
def e10_K486 : Known := e10_K55.assume e10_q485 false
theorem e10_L487 : X.prove 300 1000 e10_K485 e10_q484 = true := by kernel_rfl
def e10_q488 : X := .cmp .eql (.iv 3) (.lit (.ofNat 16384))
def e10_K488 : Known := e10_K486.assume e10_q488 true
def e10_K489 : Known := e10_K486.assume e10_q488 false
theorem e10_L490 : X.prove 300 1000 e10_K488 e10_q484 = true := by kernel_rfl
def e10_q491 : X := .cmp .eql (.iv 3) (.lit (.ofNat 32768))
def e10_K491 : Known := e10_K489.assume e10_q491 true
def e10_K492 : Known := e10_K489.assume e10_q491 false
theorem e10_L493 : X.prove 300 1000 e10_K491 e10_q484 = true := by kernel_rfl
def e10_q494 : X := .cmp .eql (.iv 3) (.lit (.ofNat 65536))
def e10_K494 : Known := e10_K492.assume e10_q494 true
def e10_K495 : Known := e10_K492.assume e10_q494 false
theorem e10_L496 : X.prove 300 1000 e10_K494 e10_q484 = true := by kernel_rfl
def e10_q497 : X := .cmp .eql (.iv 3) (.lit (.ofNat 131072))
def e10_K497 : Known := e10_K495.assume e10_q497 true
def e10_K498 : Known := e10_K495.assume e10_q497 false
theorem e10_L499 : X.prove 300 1000 e10_K497 e10_q484 = true := by kernel_rfl
def e10_q500 : X := .cmp .eql (.iv 3) (.lit (.ofNat 262144))
def e10_K500 : Known := e10_K498.assume e10_q500 true
def e10_K501 : Known := e10_K498.assume e10_q500 false
theorem e10_L502 : X.prove 300 1000 e10_K500 e10_q484 = true := by kernel_rfl
theorem e10_L503 : X.prove 300 1000 e10_K501 e10_q484 = true := by kernel_rfl
def e10_q504 : X := .cmp .lss (.iv 0) (.lit (.ofNat 0))
def e10_K504 : Known := e10_K484.assume e10_q504 true
def e10_K505 : Known := e10_K484.assume e10_q504 false
theorem e10_L506 : X.prove 300 1000 e10_K504 e10_g = true := by kernel_rfl
def e10_q507 : X := .cmp .gtr (.iv 0) (.lit (.ofNat 7))
def e10_K507 : Known := e10_K505.assume e10_q507 true
def e10_K508 : Known := e10_K505.assume e10_q507 false
theorem e10_L509 : X.prove 300 1000 e10_K507 e10_g = true := by kernel_rfl
def e10_q510 : X := .cmp .eql (.iv 0) (.lit (.ofNat 0))
def e10_K510 : Known := e10_K508.assume e10_q510 true
def e10_K511 : Known := e10_K508.assume e10_q510 false
theorem e10_L512 : X.prove 300 1000 e10_K510 e10_g = true := by kernel_rfl
def e10_q513 : X := .cmp .eql (.iv 0) (.lit (.ofNat 1))
def e10_K513 : Known := e10_K511.assume e10_q513 true
def e10_K514 : Known := e10_K511.assume e10_q513 false
theorem e10_L515 : X.prove 300 1000 e10_K513 e10_g = true := by kernel_rfl
def e10_q516 : X := .cmp .eql (.iv 0) (.lit (.ofNat 2))
def e10_K516 : Known := e10_K514.assume e10_q516 true
def e10_K517 : Known := e10_K514.assume e10_q516 false
theorem e10_L518 : X.prove 300 1000 e10_K516 e10_g = true := by kernel_rfl
def e10_q519 : X := .cmp .eql (.iv 0) (.lit (.ofNat 3))
def e10_K519 : Known := e10_K517.assume e10_q519 true
def e10_K520 : Known := e10_K517.assume e10_q519 false
theorem e10_L521 : X.prove 300 1000 e10_K519 e10_g = true := by kernel_rfl
def e10_q522 : X := .cmp .eql (.iv 0) (.lit (.ofNat 4))
def e10_K522 : Known := e10_K520.assume e10_q522 true
def e10_K523 : Known := e10_K520.assume e10_q522 false
theorem e10_L524 : X.prove 300 1000 e10_K522 e10_g = true := by kernel_rfl
def e10_q525 : X := .cmp .eql (.iv 0) (.lit (.ofNat 5))
def e10_K525 : Known := e10_K523.assume e10_q525 true
def e10_K526 : Known := e10_K523.assume e10_q525 false
theorem e10_L527 : X.prove 300 1000 e10_K525 e10_g = true := by kernel_rfl
def e10_q528 : X := .cmp .eql (.iv 0) (.lit (.ofNat 6))
def e10_K528 : Known := e10_K526.assume e10_q528 true
def e10_K529 : Known := e10_K526.assume e10_q528 false
theorem e10_L530 : X.prove 300 1000 e10_K528 e10_g = true := by kernel_rfl
theorem e10_L531 : X.prove 300 1000 e10_K529 e10_g = true := by kernel_rfl
def e10_q532 : X := .cmp .neq (.ite (.cmp .lss (.lit (.ofNat 16384)) (.iv 2)) (.ite (.cmp .lss (.lit (.ofNat 32768)) (.iv 2)) (.ite (.cmp .lss (.lit (.ofNat 65536)) (.iv 2)) (.ite (.cmp .lss (.lit (.ofNat 131072)) (.iv 2)) (.ite (.cmp .lss (.lit (.ofNat 262144)) (.iv 2)) (.lit (.ofNat 524288)) (.lit (.ofNat 262144))) (.lit (.ofNat 131072))) (.lit (.ofNat 65536))) (.lit (.ofNat 32768))) (.lit (.ofNat 16384))) (.iv 2)
def e10_K532 : Known := e10_K3.assume e10_q532 true
def e10_q533 : X := .cmp .eql (.iv 2) (.lit (.ofNat 16384))
def e10_K533 : Known := e10_K3.assume e10_q533 true
def e10_K534 : Known := e10_K3.assume e10_q533 false
theorem e10_L535 : X.prove 300 1000 e10_K533 e10_q532 = true := by kernel_rfl
def e10_q536 : X := .cmp .eql (.iv 2) (.lit (.ofNat 32768))
def e10_K536 : Known := e10_K534.assume e10_q536 true
def e10_K537 : Known := e10_K534.assume e10_q536 false
theorem e10_L538 : X.prove 300 1000 e10_K536 e10_q532 = true := by kernel_rfl
def e10_q539 : X := .cmp .eql (.iv 2) (.lit (.ofNat 65536))
def e10_K539 : Known := e10_K537.assume e10_q539 true
def e10_K540 : Known := e10_K537.assume e10_q539 false
theorem e10_L541 : X.prove 300 1000 e10_K539 e10_q532 = true := by kernel_rfl
def e10_q542 : X := .cmp .eql (.iv 2) (.lit (.ofNat 131072))
def e10_K542 : Known := e10_K540.assume e10_q542 true
def e10_K543 : Known := e10_K540.assume e10_q542 false
theorem e10_L544 : X.prove 300 1000 e10_K542 e10_q532 = true := by kernel_rfl
def e10_q545 : X := .cmp .eql (.iv 2) (.lit (.ofNat 262144))
def e10_K545 : Known := e10_K543.assume e10_q545 true
def e10_K546 : Known := e10_K543.assume e10_q545 false
theorem e10_L547 : X.prove 300 1000 e10_K545 e10_q532 = true := by kernel_rfl
def e10_q548 : X := .cmp .eql (.iv 2) (.lit (.ofNat 524288))
def e10_K548 : Known := e10_K546.assume e10_q548 true
def e10_K549 : Known := e10_K546.assume e10_q548 false
theorem e10_L550 : X.prove 300 1000 e10_K548 e10_q532 = true := by kernel_rfl
theorem e10_L551 : X.prove 300 1000 e10_K549 e10_q532 = true := by kernel_rfl
def e10_q552 : X := .cmp .lss (.iv 0) (.lit (.ofNat 0))
def e10_K552 : Known := e10_K532.assume e10_q552 true
def e10_K553 : Known := e10_K532.assume e10_q552 false
theorem e10_L554 : X.prove 300 1000 e10_K552 e10_g = true := by kernel_rfl
def e10_q555 : X := .cmp .gtr (.iv 0) (.lit (.ofNat 7))
def e10_K555 : Known := e10_K553.assume e10_q555 true
def e10_K556 : Known := e10_K553.assume e10_q555 false
theorem e10_L557 : X.prove 300 1000 e10_K555 e10_g = true := by kernel_rfl
def e10_q558 : X := .cmp .eql (.iv 0) (.lit (.ofNat 0))
def e10_K558 : Known := e10_K556.assume e10_q558 true
def e10_K559 : Known := e10_K556.assume e10_q558 false
theorem e10_L560 : X.prove 300 1000 e10_K558 e10_g = true := by kernel_rfl
def e10_q561 : X := .cmp .eql (.iv 0) (.lit (.ofNat 1))
def e10_K561 : Known := e10_K559.assume e10_q561 true
def e10_K562 : Known := e10_K559.assume e10_q561 false
theorem e10_L563 : X.prove 300 1000 e10_K561 e10_g = true := by kernel_rfl
def e10_q564 : X := .cmp .eql (.iv 0) (.lit (.ofNat 2))
def e10_K564 : Known := e10_K562.assume e10_q564 true
def e10_K565 : Known := e10_K562.assume e10_q564 false
theorem e10_L566 : X.prove 300 1000 e10_K564 e10_g = true := by kernel_rfl
def e10_q567 : X := .cmp .eql (.iv 0) (.lit (.ofNat 3))
def e10_K567 : Known := e10_K565.assume e10_q567 true
def e10_K568 : Known := e10_K565.assume e10_q567 false
theorem e10_L569 : X.prove 300 1000 e10_K567 e10_g = true := by kernel_rfl
def e10_q570 : X := .cmp .eql (.iv 0) (.lit (.ofNat 4))
def e10_K570 : Known := e10_K568.assume e10_q570 true
def e10_K571 : Known := e10_K568.assume e10_q570 false
theorem e10_L572 : X.prove 300 1000 e10_K570 e10_g = true := by kernel_rfl
def e10_q573 : X := .cmp .eql (.iv 0) (.lit (.ofNat 5))
def e10_K573 : Known := e10_K571.assume e10_q573 true
def e10_K574 : Known := e10_K571.assume e10_q573 false
theorem e10_L575 : X.prove 300 1000 e10_K573 e10_g = true := by kernel_rfl
def e10_q576 : X := .cmp .eql (.iv 0) (.lit (.ofNat 6))
def e10_K576 : Known := e10_K574.assume e10_q576 true
def e10_K577 : Known := e10_K574.assume e10_q576 false
theorem e10_L578 : X.prove 300 1000 e10_K576 e10_g = true := by kernel_rfl
theorem e10_L579 : X.prove 300 1000 e10_K577 e10_g = true := by kernel_rfl
def e10_q580 : X := .cmp .neq (.ite (.cmp .lss (.lit (.ofNat 16384)) (.iv 2)) (.ite (.cmp .lss (.lit (.ofNat 32768)) (.iv 2)) (.ite (.cmp .lss (.lit (.ofNat 65536)) (.iv 2)) (.ite (.cmp .lss (.lit (.ofNat 131072)) (.iv 2)) (.ite (.cmp .lss (.lit (.ofNat 262144)) (.iv 2)) (.lit (.ofNat 524288)) (.lit (.ofNat 262144))) (.lit (.ofNat 131072))) (.lit (.ofNat 65536))) (.lit (.ofNat 32768))) (.lit (.ofNat 16384))) (.iv 2)
def e10_K580 : Known := e10_K1.assume e10_q580 true
def e10_q581 : X := .cmp .eql (.iv 2) (.lit (.ofNat 16384))
def e10_K581 : Known := e10_K1.assume e10_q581 true
def e10_K582 : Known := e10_K1.assume e10_q581 false
theorem e10_L583 : X.prove 300 1000 e10_K581 e10_q580 = true := by kernel_rfl
def e10_q584 : X := .cmp .eql (.iv 2) (.lit (.ofNat 32768))
def e10_K584 : Known := e10_K582.assume e10_q584 true
def e10_K585 : Known := e10_K582.assume e10_q584 false
theorem e10_L586 : X.prove 300 1000 e10_K584 e10_q580 = true := by kernel_rfl
def e10_q587 : X := .cmp .eql (.iv 2) (.lit (.ofNat 65536))
def e10_K587 : Known := e10_K585.assume e10_q587 true
def e10_K588 : Known := e10_K585.assume e10_q587 false
theorem e10_L589 : X.prove 300 1000 e10_K587 e10_q580 = true := by kernel_rfl
def e10_q590 : X := .cmp .eql (.iv 2) (.lit (.ofNat 131072))
def e10_K590 : Known := e10_K588.assume e10_q590 true
def e10_K591 : Known := e10_K588.assume e10_q590 false
theorem e10_L592 : X.prove 300 1000 e10_K590 e10_q580 = true := by kernel_rfl
def e10_q593 : X := .cmp .eql (.iv 2) (.lit (.ofNat 262144))
def e10_K593 : Known := e10_K591.assume e10_q593 true
def e10_K594 : Known := e10_K591.assume e10_q593 false
theorem e10_L595 : X.prove 300 1000 e10_K593 e10_q580 = true := by kernel_rfl
def e10_q596 : X := .cmp .eql (.iv 2) (.lit (.ofNat 524288))
def e10_K596 : Known := e10_K594.assume e10_q596 true
def e10_K597 : Known := e10_K594.assume e10_q596 false
theorem e10_L598 : X.prove 300 1000 e10_K596 e10_q580 = true := by kernel_rfl
theorem e10_L599 : X.prove 300 1000 e10_K597 e10_q580 = true := by kernel_rfl
def e10_q600 : X := .cmp .lss (.iv 0) (.lit (.ofNat 0))
def e10_K600 : Known := e10_K580.assume e10_q600 true
def e10_K601 : Known := e10_K580.assume e10_q600 false
theorem e10_L602 : X.prove 300 1000 e10_K600 e10_g = true := by kernel_rfl
def e10_q603 : X := .cmp .gtr (.iv 0) (.lit (.ofNat 7))
def e10_K603 : Known := e10_K601.assume e10_q603 true
def e10_K604 : Known := e10_K601.assume e10_q603 false
theorem e10_L605 : X.prove 300 1000 e10_K603 e10_g = true := by kernel_rfl
def e10_q606 : X := .cmp .eql (.iv 0) (.lit (.ofNat 0))
def e10_K606 : Known := e10_K604.assume e10_q606 true
def e10_K607 : Known := e10_K604.assume e10_q606 false
theorem e10_L608 : X.prove 300 1000 e10_K606 e10_g = true := by kernel_rfl
def e10_q609 : X := .cmp .eql (.iv 0) (.lit (.ofNat 1))
def e10_K609 : Known := e10_K607.assume e10_q609 true
def e10_K610 : Known := e10_K607.assume e10_q609 false
theorem e10_L611 : X.prove 300 1000 e10_K609 e10_g = true := by kernel_rfl
def e10_q612 : X := .cmp .eql (.iv 0) (.lit (.ofNat 2))
def e10_K612 : Known := e10_K610.assume e10_q612 true
def e10_K613 : Known := e10_K610.assume e10_q612 false
theorem e10_L614 : X.prove 300 1000 e10_K612 e10_g = true := by kernel_rfl
def e10_q615 : X := .cmp .eql (.iv 0) (.lit (.ofNat 3))
def e10_K615 : Known := e10_K613.assume e10_q615 true
def e10_K616 : Known := e10_K613.assume e10_q615 false
theorem e10_L617 : X.prove 300 1000 e10_K615 e10_g = true := by kernel_rfl
def e10_q618 : X := .cmp .eql (.iv 0) (.lit (.ofNat 4))
def e10_K618 : Known := e10_K616.assume e10_q618 true
def e10_K619 : Known := e10_K616.assume e10_q618 false
theorem e10_L620 : X.prove 300 1000 e10_K618 e10_g = true := by kernel_rfl
def e10_q621 : X := .cmp .eql (.iv 0) (.lit (.ofNat 5))
def e10_K621 : Known := e10_K619.assume e10_q621 true
def e10_K622 : Known := e10_K619.assume e10_q621 false
theorem e10_L623 : X.prove 300 1000 e10_K621 e10_g = true := by kernel_rfl
def e10_q624 : X := .cmp .eql (.iv 0) (.lit (.ofNat 6))
def e10_K624 : Known := e10_K622.assume e10_q624 true
def e10_K625 : Known := e10_K622.assume e10_q624 false
theorem e10_L626 : X.prove 300 1000 e10_K624 e10_g = true := by kernel_rfl
theorem e10_L627 : X.prove 300 1000 e10_K625 e10_g = true := by kernel_rfl
theorem eq10 : ∀ ρ, (⟨ks10.map LK.rg, []⟩ : Known).ok ρ → e10_g.B ρ = true := fun _ (h : e10_K.ok _) => split_on e10_q0 h (fun (h : e10_K0.ok _) => split_on e10_q2 h (fun (h : e10_K2.ok _) => split_lem e10_q4 h (show e10_q4.B _ = true from split_on e10_q5 h (fun (h : e10_K5.ok _) => prove_ok h e10_L7) (fun (h : e10_K6.ok _) => split_on e10_q8 h (fun (h : e10_K8.ok _) => prove_ok h e10_L10) (fun (h : e10_K9.ok _) => split_on e10_q11 h (fun (h : e10_K11.ok _) => prove_ok h e10_L13) (fun (h : e10_K12.ok _) => split_on e10_q14 h (fun (h : e10_K14.ok _) => prove_ok h e10_L16) (fun (h : e10_K15.ok _) => split_on e10_q17 h (fun (h : e10_K17.ok _) => prove_ok h e10_L19) (fun (h : e10_K18.ok _) => split_on e10_q20 h (fun (h : e10_K20.ok _) => prove_ok h e10_L22) (fun (h : e10_K21.ok _) => split_on e10_q23 h (fun (h : e10_K23.ok _) => split_lem e10_q25 h (show e10_q25.B _ = true from prove_ok h e10_L26) (fun (h : e10_K25.ok _) => prove_ok h e10_L27)) (fun (h : e10_K24.ok _) => split_on e10_q28 h (fun (h : e10_K28.ok _) => split_lem e10_q30 h (show e10_q30.B _ = true from prove_ok h e10_L31) (fun (h : e10_K30.ok _) => prove_ok h e10_L32)) (fun (h : e10_K29.ok _) => split_on e10_q33 h (fun (h : e10_K33.ok _) => split_lem e10_q35 h (show e10_q35.B _ = true from prove_ok h e10_L36) (fun (h : e10_K35.ok _) => prove_ok h e10_L37)) (fun (h : e10_K34.ok _) => split_on e10_q38 h (fun (h : e10_K38.ok _) => split_lem e10_q40 h (show e10_q40.B _ = true from prove_ok h e10_L41) (fun (h : e10_K40.ok _) => prove_ok h e10_L42)) (fun (h : e10_K39.ok _) => split_on e10_q43 h (fun (h : e10_K43.ok _) => split_lem e10_q45 h (show e10_q45.B _ = true from prove_ok h e10_L46) (fun (h : e10_K45.ok _) => prove_ok h e10_L47)) (fun (h : e10_K44.ok _) => split_on e10_q48 h (fun (h : e10_K48.ok _) => split_lem e10_q50 h (show e10_q50.B _ = true from prove_ok h e10_L51) (fun (h : e10_K50.ok _) => prove_ok h e10_L52)) (fun (h : e10_K49.ok _) => prove_ok h e10_L53))))))))))))) (fun (h : e10_K4.ok _) => split_on e10_q54 h (fun (h : e10_K54.ok _) => split_on e10_q56 h (fun (h : e10_K56.ok _) => split_lem e10_q58 h (show e10_q58.B _ = true from split_on e10_q59 h (fun (h : e10_K59.ok _) => prove_ok h e10_L61) (fun (h : e10_K60.ok _) => split_on e10_q62 h (fun (h : e10_K62.ok _) => prove_ok h e10_L64) (fun (h : e10_K63.ok _) => split_on e10_q65 h (fun (h : e10_K65.ok _) => prove_ok h e10_L67) (fun (h : e10_K66.ok _) => split_on e10_q68 h (fun (h : e10_K68.ok _) => prove_ok h e10_L70) (fun (h : e10_K69.ok _) => split_on e10_q71 h (fun (h : e10_K71.ok _) => prove_ok h e10_L73) (fun (h : e10_K72.ok _) => split_on e10_q74 h (fun (h : e10_K74.ok _) => prove_ok h e10_L76) (fun (h : e10_K75.ok _) => split_on e10_q77 h (fun (h : e10_K77.ok _) => split_lem e10_q79 h (show e10_q79.B _ = true from prove_ok h e10_L80) (fun (h : e10_K79.ok _) => prove_ok h e10_L81)) (fun (h : e10_K78.ok _) => split_on e10_q82 h (fun (h : e10_K82.ok _) => split_lem e10_q84 h (show e10_q84.B _ = true from prove_ok h e10_L85) (fun (h : e10_K84.ok _) => prove_ok h e10_L86)) (fun (h : e10_K83.ok _) => split_on e10_q87 h (fun (h : e10_K87.ok _) => split_lem e10_q89 h (show e10_q89.B _ = true from prove_ok h e10_L90) (fun (h : e10_K89.ok _) => prove_ok h e10_L91)) (fun (h : e10_K88.ok _) => split_on e10_q92 h (fun (h : e10_K92.ok _) => split_lem e10_q94 h (show e10_q94.B _ = true from prove_ok h e10_L95) (fun (h : e10_K94.ok _) => prove_ok h e10_L96)) (fun (h : e10_K93.ok _) => split_on e10_q97 h (fun (h : e10_K97.ok _) => split_lem e10_q99 h (show e10_q99.B _ = true from prove_ok h e10_L100) (fun (h : e10_K99.ok _) => prove_ok h e10_L101)) (fun (h : e10_K98.ok _) => split_on e10_q102 h (fun (h : e10_K102.ok _) => split_lem e10_q104 h (show e10_q104.B _ = true from prove_ok h e10_L105) (fun (h : e10_K104.ok _) => prove_ok h e10_L106)) (fun (h : e10_K103.ok _) => prove_ok h e10_L107))))))))))))) (fun (h : e10_K58.ok _) => split_on e10_q108 h (fun (h : e10_K108.ok _) => split_on e10_q110 h (fun (h : e10_K110.ok _) => split_on e10_q112 h (fun (h : e10_K112.ok _) => split_on e10_q114 h (fun (h : e10_K114.ok _) => prove_ok h e10_L116) (fun (h : e10_K115.ok _) => split_on e10_q117 h (fun (h : e10_K117.ok _) => prove_ok h e10_L119) (fun (h : e10_K118.ok _) => split_on e10_q120 h (fun (h : e10_K120.ok _) => prove_ok h e10_L122) (fun (h : e10_K121.ok _) => split_on e10_q123 h (fun (h : e10_K123.ok _) => prove_ok h e10_L125) (fun (h : e10_K124.ok _) => split_on e10_q126 h (fun (h : e10_K126.ok _) => prove_ok h e10_L128) (fun (h : e10_K127.ok _) => split_on e10_q129 h (fun (h : e10_K129.ok _) => prove_ok h e10_L131) (fun (h : e10_K130.ok _) => split_on e10_q132 h (fun (h : e10_K132.ok _) => prove_ok h e10_L134) (fun (h : e10_K133.ok _) => split_on e10_q135 h (fun (h : e10_K135.ok _) => prove_ok h e10_L137) (fun (h : e10_K136.ok _) => split_on e10_q138 h (fun (h : e10_K138.ok _) => prove_ok h e10_L140) (fun (h : e10_K139.ok _) => prove_ok h e10_L141)))))))))) (fun (h : e10_K113.ok _) => split_on e10_q142 h (fun (h : e10_K142.ok _) => split_on e10_q144 h (fun (h : e10_K144.ok _) => prove_ok h e10_L146) (fun (h : e10_K145.ok _) => split_on e10_q147 h (fun (h : e10_K147.ok _) => prove_ok h e10_L149) (fun (h : e10_K148.ok _) => split_on e10_q150 h (fun (h : e10_K150.ok _) => prove_ok h e10_L152) (fun (h : e10_K151.ok _) => split_on e10_q153 h (fun (h : e10_K153.ok _) => prove_ok h e10_L155) (fun (h : e10_K154.ok _) => split_on e10_q156 h (fun (h : e10_K156.ok _) => prove_ok h e10_L158) (fun (h : e10_K157.ok _) => split_on e10_q159 h (fun (h : e10_K159.ok _) => prove_ok h e10_L161) (fun (h : e10_K160.ok _) => split_on e10_q162 h (fun (h : e10_K162.ok _) => prove_ok h e10_L164) (fun (h : e10_K163.ok _) => split_on e10_q165 h (fun (h : e10_K165.ok _) => prove_ok h e10_L167) (fun (h : e10_K166.ok _) => split_on e10_q168 h (fun (h : e10_K168.ok _) => prove_ok h e10_L170) (fun (h : e10_K169.ok _) => prove_ok h e10_L171)))))))))) (fun (h : e10_K143.ok _) => split_on e10_q172 h (fun (h : e10_K172.ok _) => split_on e10_q174 h (fun (h : e10_K174.ok _) => prove_ok h e10_L176) (fun (h : e10_K175.ok _) => split_on e10_q177 h (fun (h : e10_K177.ok _) => prove_ok h e10_L179) (fun (h : e10_K178.ok _) => split_on e10_q180 h (fun (h : e10_K180.ok _) => prove_ok h e10_L182) (fun (h : e10_K181.ok _) => split_on e10_q183 h (fun (h : e10_K183.ok _) => prove_ok h e10_L185) (fun (h : e10_K184.ok _) => split_on e10_q186 h (fun (h : e10_K186.ok _) => prove_ok h e10_L188) (fun (h : e10_K187.ok _) => split_on e10_q189 h (fun (h : e10_K189.ok _) => prove_ok h e10_L191) (fun (h : e10_K190.ok _) => split_on e10_q192 h (fun (h : e10_K192.ok _) => prove_ok h e10_L194) (fun (h : e10_K193.ok _) => split_on e10_q195 h (fun (h : e10_K195.ok _) => prove_ok h e10_L197) (fun (h : e10_K196.ok _) => split_on e10_q198 h (fun (h : e10_K198.ok _) => prove_ok h e10_L200) (fun (h : e10_K199.ok _) => prove_ok h e10_L201)))))))))) (fun (h : e10_K173.ok _) => split_on e10_q202 h (fun (h : e10_K202.ok _) => split_on e10_q204 h (fun (h : e10_K204.ok _) => prove_ok h e10_L206) (fun (h : e10_K205.ok _) => split_on e10_q207 h (fun (h : e10_K207.ok _) => prove_ok h e10_L209) (fun (h : e10_K208.ok _) => split_on e10_q210 h (fun (h : e10_K210.ok _) => prove_ok h e10_L212) (fun (h : e10_K211.ok _) => split_on e10_q213 h (fun (h : e10_K213.ok _) => prove_ok h e10_L215) (fun (h : e10_K214.ok _) => split_on e10_q216 h (fun (h : e10_K216.ok _) => prove_ok h e10_L218) (fun (h : e10_K217.ok _) => split_on e10_q219 h (fun (h : e10_K219.ok _) => prove_ok h e10_L221) (fun (h : e10_K220.ok _) => split_on e10_q222 h (fun (h : e10_K222.ok _) => prove_ok h e10_L224) (fun (h : e10_K223.ok _) => split_on e10_q225 h (fun (h : e10_K225.ok _) => prove_ok h e10_L227) (fun (h : e10_K226.ok _) => split_on e10_q228 h (fun (h : e10_K228.ok _) => prove_ok h e10_L230) (fun (h : e10_K229.ok _) => prove_ok h e10_L231)))))))))) (fun (h : e10_K203.ok _) => split_on e10_q232 h (fun (h : e10_K232.ok _) => prove_ok h e10_L234) (fun (h : e10_K233.ok _) => split_on e10_q235 h (fun (h : e10_K235.ok _) => prove_ok h e10_L237) (fun (h : e10_K236.ok _) => split_on e10_q238 h (fun (h : e10_K238.ok _) => prove_ok h e10_L240) (fun (h : e10_K239.ok _) => split_on e10_q241 h (fun (h : e10_K241.ok _) => prove_ok h e10_L243) (fun (h : e10_K242.ok _) => split_on e10_q244 h (fun (h : e10_K244.ok _) => prove_ok h e10_L246) (fun (h : e10_K245.ok _) => split_on e10_q247 h (fun (h : e10_K247.ok _) => prove_ok h e10_L249) (fun (h : e10_K248.ok _) => split_on e10_q250 h (fun (h : e10_K250.ok _) => prove_ok h e10_L252) (fun (h : e10_K251.ok _) => split_on e10_q253 h (fun (h : e10_K253.ok _) => prove_ok h e10_L255) (fun (h : e10_K254.ok _) => split_on e10_q256 h (fun (h : e10_K256.ok _) => prove_ok h e10_L258) (fun (h : e10_K257.ok _) => prove_ok h e10_L259)))))))))))))) (fun (h : e10_K111.ok _) => split_on e10_q260 h (fun (h : e10_K260.ok _) => prove_ok h e10_L262) (fun (h : e10_K261.ok _) => split_on e10_q263 h (fun (h : e10_K263.ok _) => prove_ok h e10_L265) (fun (h : e10_K264.ok _) => split_on e10_q266 h (fun (h : e10_K266.ok _) => prove_ok h e10_L268) (fun (h : e10_K267.ok _) => split_on e10_q269 h (fun (h : e10_K269.ok _) => prove_ok h e10_L271) (fun (h : e10_K270.ok _) => split_on e10_q272 h (fun (h : e10_K272.ok _) => prove_ok h e10_L274) (fun (h : e10_K273.ok _) => split_on e10_q275 h (fun (h : e10_K275.ok _) => prove_ok h e10_L277) (fun (h : e10_K276.ok _) => split_on e10_q278 h (fun (h : e10_K278.ok _) => prove_ok h e10_L280) (fun (h : e10_K279.ok _) => split_on e10_q281 h (fun (h : e10_K281.ok _) => prove_ok h e10_L283) (fun (h : e10_K282.ok _) => split_on e10_q284 h (fun (h : e10_K284.ok _) => prove_ok h e10_L286) (fun (h : e10_K285.ok _) => prove_ok h e10_L287))))))))))) (fun (h : e10_K109.ok _) => split_on e10_q288 h (fun (h : e10_K288.ok _) => split_on e10_q290 h (fun (h : e10_K290.ok _) => prove_ok h e10_L292) (fun (h : e10_K291.ok _) => split_on e10_q293 h (fun (h : e10_K293.ok _) => prove_ok h e10_L295) (fun (h : e10_K294.ok _) => split_on e10_q296 h (fun (h : e10_K296.ok _) => prove_ok h e10_L298) (fun (h : e10_K297.ok _) => split_on e10_q299 h (fun (h : e10_K299.ok _) => prove_ok h e10_L301) (fun (h : e10_K300.ok _) => split_on e10_q302 h (fun (h : e10_K302.ok _) => prove_ok h e10_L304) (fun (h : e10_K303.ok _) => split_on e10_q305 h (fun (h : e10_K305.ok _) => prove_ok h e10_L307) (fun (h : e10_K306.ok _) => split_on e10_q308 h (fun (h : e10_K308.ok _) => prove_ok h e10_L310) (fun (h : e10_K309.ok _) => split_on e10_q311 h (fun (h : e10_K311.ok _) => prove_ok h e10_L313) (fun (h : e10_K312.ok _) => split_on e10_q314 h (fun (h : e10_K314.ok _) => prove_ok h e10_L316) (fun (h : e10_K315.ok _) => prove_ok h e10_L317)))))))))) (fun (h : e10_K289.ok _) => split_on e10_q318 h (fun (h : e10_K318.ok _) => split_on e10_q320 h (fun (h : e10_K320.ok _) => prove_ok h e10_L322) (fun (h : e10_K321.ok _) => split_on e10_q323 h (fun (h : e10_K323.ok _) => prove_ok h e10_L325) (fun (h : e10_K324.ok _) => split_on e10_q326 h (fun (h : e10_K326.ok _) => prove_ok h e10_L328) (fun (h : e10_K327.ok _) => split_on e10_q329 h (fun (h : e10_K329.ok _) => prove_ok h e10_L331) (fun (h : e10_K330.ok _) => split_on e10_q332 h (fun (h : e10_K332.ok _) => prove_ok h e10_L334) (fun (h : e10_K333.ok _) => split_on e10_q335 h (fun (h : e10_K335.ok _) => prove_ok h e10_L337) (fun (h : e10_K336.ok _) => split_on e10_q338 h (fun (h : e10_K338.ok _) => prove_ok h e10_L340) (fun (h : e10_K339.ok _) => split_on e10_q341 h (fun (h : e10_K341.ok _) => prove_ok h e10_L343) (fun (h : e10_K342.ok _) => split_on e10_q344 h (fun (h : e10_K344.ok _) => prove_ok h e10_L346) (fun (h : e10_K345.ok _) => prove_ok h e10_L347)))))))))) (fun (h : e10_K319.ok _) => split_on e10_q348 h (fun (h : e10_K348.ok _) => split_on e10_q350 h (fun (h : e10_K350.ok _) => prove_ok h e10_L352) (fun (h : e10_K351.ok _) => split_on e10_q353 h (fun (h : e10_K353.ok _) => prove_ok h e10_L355) (fun (h : e10_K354.ok _) => split_on e10_q356 h (fun (h : e10_K356.ok _) => prove_ok h e10_L358) (fun (h : e10_K357.ok _) => split_on e10_q359 h (fun (h : e10_K359.ok _) => prove_ok h e10_L361) (fun (h : e10_K360.ok _) => split_on e10_q362 h (fun (h : e10_K362.ok _) => prove_ok h e10_L364) (fun (h : e10_K363.ok _) => split_on e10_q365 h (fun (h : e10_K365.ok _) => prove_ok h e10_L367) (fun (h : e10_K366.ok _) => split_on e10_q368 h (fun (h : e10_K368.ok _) => prove_ok h e10_L370) (fun (h : e10_K369.ok _) => split_on e10_q371 h (fun (h : e10_K371.ok _) => prove_ok h e10_L373) (fun (h : e10_K372.ok _) => split_on e10_q374 h (fun (h : e10_K374.ok _) => prove_ok h e10_L376) (fun (h : e10_K375.ok _) => prove_ok h e10_L377)))))))))) (fun (h : e10_K349.ok _) => split_on e10_q378 h (fun (h : e10_K378.ok _) => split_on e10_q380 h (fun (h : e10_K380.ok _) => prove_ok h e10_L382) (fun (h : e10_K381.ok _) => split_on e10_q383 h (fun (h : e10_K383.ok _) => prove_ok h e10_L385) (fun (h : e10_K384.ok _) => split_on e10_q386 h (fun (h : e10_K386.ok _) => prove_ok h e10_L388) (fun (h : e10_K387.ok _) => split_on e10_q389 h (fun (h : e10_K389.ok _) => prove_ok h e10_L391) (fun (h : e10_K390.ok _) => split_on e10_q392 h (fun (h : e10_K392.ok _) => prove_ok h e10_L394) (fun (h : e10_K393.ok _) => split_on e10_q395 h (fun (h : e10_K395.ok _) => prove_ok h e10_L397) (fun (h : e10_K396.ok _) => split_on e10_q398 h (fun (h : e10_K398.ok _) => prove_ok h e10_L400) (fun (h : e10_K399.ok _) => split_on e10_q401 h (fun (h : e10_K401.ok _) => prove_ok h e10_L403) (fun (h : e10_K402.ok _) => split_on e10_q404 h (fun (h : e10_K404.ok _) => prove_ok h e10_L406) (fun (h : e10_K405.ok _) => prove_ok h e10_L407)))))))))) (fun (h : e10_K379.ok _) => split_on e10_q408 h (fun (h : e10_K408.ok _) => prove_ok h e10_L410) (fun (h : e10_K409.ok _) => split_on e10_q411 h (fun (h : e10_K411.ok _) => prove_ok h e10_L413) (fun (h : e10_K412.ok _) => split_on e10_q414 h (fun (h : e10_K414.ok _) => prove_ok h e10_L416) (fun (h : e10_K415.ok _) => split_on e10_q417 h (fun (h : e10_K417.ok _) => prove_ok h e10_L419) (fun (h : e10_K418.ok _) => split_on e10_q420 h (fun (h : e10_K420.ok _) => prove_ok h e10_L422) (fun (h : e10_K421.ok _) => split_on e10_q423 h (fun (h : e10_K423.ok _) => prove_ok h e10_L425) (fun (h : e10_K424.ok _) => split_on e10_q426 h (fun (h : e10_K426.ok _) => prove_ok h e10_L428) (fun (h : e10_K427.ok _) => split_on e10_q429 h (fun (h : e10_K429.ok _) => prove_ok h e10_L431) (fun (h : e10_K430.ok _) => split_on e10_q432 h (fun (h : e10_K432.ok _) => prove_ok h e10_L434) (fun (h : e10_K433.ok _) => prove_ok h e10_L435)))))))))))))))) (fun (h : e10_K57.ok _) => split_lem e10_q436 h (show e10_q436.B _ = true from split_on e10_q437 h (fun (h : e10_K437.ok _) => prove_ok h e10_L439) (fun (h : e10_K438.ok _) => split_on e10_q440 h (fun (h : e10_K440.ok _) => prove_ok h e10_L442) (fun (h : e10_K441.ok _) => split_on e10_q443 h (fun (h : e10_K443.ok _) => prove_ok h e10_L445) (fun (h : e10_K444.ok _) => split_on e10_q446 h (fun (h : e10_K446.ok _) => prove_ok h e10_L448) (fun (h : e10_K447.ok _) => split_on e10_q449 h (fun (h : e10_K449.ok _) => prove_ok h e10_L451) (fun (h : e10_K450.ok _) => split_on e10_q452 h (fun (h : e10_K452.ok _) => prove_ok h e10_L454) (fun (h : e10_K453.ok _) => prove_ok h e10_L455))))))) (fun (h : e10_K436.ok _) => split_on e10_q456 h (fun (h : e10_K456.ok _) => prove_ok h e10_L458) (fun (h : e10_K457.ok _) => split_on e10_q459 h (fun (h : e10_K459.ok _) => prove_ok h e10_L461) (fun (h : e10_K460.ok _) => split_on e10_q462 h (fun (h : e10_K462.ok _) => prove_ok h e10_L464) (fun (h : e10_K463.ok _) => split_on e10_q465 h (fun (h : e10_K465.ok _) => prove_ok h e10_L467) (fun (h : e10_K466.ok _) => split_on e10_q468 h (fun (h : e10_K468.ok _) => prove_ok h e10_L470) (fun (h : e10_K469.ok _) => split_on e10_q471 h (fun (h : e10_K471.ok _) => prove_ok h e10_L473) (fun (h : e10_K472.ok _) => split_on e10_q474 h (fun (h : e10_K474.ok _) => prove_ok h e10_L476) (fun (h : e10_K475.ok _) => split_on e10_q477 h (fun (h : e10_K477.ok _) => prove_ok h e10_L479) (fun (h : e10_K478.ok _) => split_on e10_q480 h (fun (h : e10_K480.ok _) => prove_ok h e10_L482) (fun (h : e10_K481.ok _) => prove_ok h e10_L483)))))))))))) (fun (h : e10_K55.ok _) => split_lem e10_q484 h (show e10_q484.B _ = true from split_on e10_q485 h (fun (h : e10_K485.ok _) => prove_ok h e10_L487) (fun (h : e10_K486.ok _) => split_on e10_q488 h (fun (h : e10_K488.ok _) => prove_ok h e10_L490) (fun (h : e10_K489.ok _) => split_on e10_q491 h (fun (h : e10_K491.ok _) => prove_ok h e10_L493) (fun (h : e10_K492.ok _) => split_on e10_q494 h (fun (h : e10_K494.ok _) => prove_ok h e10_L496) (fun (h : e10_K495.ok _) => split_on e10_q497 h (fun (h : e10_K497.ok _) => prove_ok h e10_L499) (fun (h : e10_K498.ok _) => split_on e10_q500 h (fun (h : e10_K500.ok _) => prove_ok h e10_L502) (fun (h : e10_K501.ok _) => prove_ok h e10_L503))))))) (fun (h : e10_K484.ok _) => split_on e10_q504 h (fun (h : e10_K504.ok _) => prove_ok h e10_L506) (fun (h : e10_K505.ok _) => split_on e10_q507 h (fun (h : e10_K507.ok _) => prove_ok h e10_L509) (fun (h : e10_K508.ok _) => split_on e10_q510 h (fun (h : e10_K510.ok _) => prove_ok h e10_L512) (fun (h : e10_K511.ok _) => split_on e10_q513 h (fun (h : e10_K513.ok _) => prove_ok h e10_L515) (fun (h : e10_K514.ok _) => split_on e10_q516 h (fun (h : e10_K516.ok _) => prove_ok h e10_L518) (fun (h : e10_K517.ok _) => split_on e10_q519 h (fun (h : e10_K519.ok _) => prove_ok h e10_L521) (fun (h : e10_K520.ok _) => split_on e10_q522 h (fun (h : e10_K522.ok _) => prove_ok h e10_L524) (fun (h : e10_K523.ok _) => split_on e10_q525 h (fun (h : e10_K525.ok _) => prove_ok h e10_L527) (fun (h : e10_K526.ok _) => split_on e10_q528 h (fun (h : e10_K528.ok _) => prove_ok h e10_L530) (fun (h : e10_K529.ok _) => prove_ok h e10_L531))))))))))))) (fun (h : e10_K3.ok _) => split_lem e10_q532 h (show e10_q532.B _ = true from split_on e10_q533 h (fun (h : e10_K533.ok _) => prove_ok h e10_L535) (fun (h : e10_K534.ok _) => split_on e10_q536 h (fun (h : e10_K536.ok _) => prove_ok h e10_L538) (fun (h : e10_K537.ok _) => split_on e10_q539 h (fun (h : e10_K539.ok _) => prove_ok h e10_L541) (fun (h : e10_K540.ok _) => split_on e10_q542 h (fun (h : e10_K542.ok _) => prove_ok h e10_L544) (fun (h : e10_K543.ok _) => split_on e10_q545 h (fun (h : e10_K545.ok _) => prove_ok h e10_L547) (fun (h : e10_K546.ok _) => split_on e10_q548 h (fun (h : e10_K548.ok _) => prove_ok h e10_L550) (fun (h : e10_K549.ok _) => prove_ok h e10_L551))))))) (fun (h : e10_K532.ok _) => split_on e10_q552 h (fun (h : e10_K552.ok _) => prove_ok h e10_L554) (fun (h : e10_K553.ok _) => split_on e10_q555 h (fun (h : e10_K555.ok _) => prove_ok h e10_L557) (fun (h : e10_K556.ok _) => split_on e10_q558 h (fun (h : e10_K558.ok _) => prove_ok h e10_L560) (fun (h : e10_K559.ok _) => split_on e10_q561 h (fun (h : e10_K561.ok _) => prove_ok h e10_L563) (fun (h : e10_K562.ok _) => split_on e10_q564 h (fun (h : e10_K564.ok _) => prove_ok h e10_L566) (fun (h : e10_K565.ok _) => split_on e10_q567 h (fun (h : e10_K567.ok _) => prove_ok h e10_L569) (fun (h : e10_K568.ok _) => split_on e10_q570 h (fun (h : e10_K570.ok _) => prove_ok h e10_L572) (fun (h : e10_K571.ok _) => split_on e10_q573 h (fun (h : e10_K573.ok _) => prove_ok h e10_L575) (fun (h : e10_K574.ok _) => split_on e10_q576 h (fun (h : e10_K576.ok _) => prove_ok h e10_L578) (fun (h : e10_K577.ok _) => prove_ok h e10_L579)))))))))))) (fun (h : e10_K1.ok _) => split_lem e10_q580 h (show e10_q580.B _ = true from split_on e10_q581 h (fun (h : e10_K581.ok _) => prove_ok h e10_L583) (fun (h : e10_K582.ok _) => split_on e10_q584 h (fun (h : e10_K584.ok _) => prove_ok h e10_L586) (fun (h : e10_K585.ok _) => split_on e10_q587 h (fun (h : e10_K587.ok _) => prove_ok h e10_L589) (fun (h : e10_K588.ok _) => split_on e10_q590 h (fun (h : e10_K590.ok _) => prove_ok h e10_L592) (fun (h : e10_K591.ok _) => split_on e10_q593 h (fun (h : e10_K593.ok _) => prove_ok h e10_L595) (fun (h : e10_K594.ok _) => split_on e10_q596 h (fun (h : e10_K596.ok _) => prove_ok h e10_L598) (fun (h : e10_K597.ok _) => prove_ok h e10_L599))))))) (fun (h : e10_K580.ok _) => split_on e10_q600 h (fun (h : e10_K600.ok _) => prove_ok h e10_L602) (fun (h : e10_K601.ok _) => split_on e10_q603 h (fun (h : e10_K603.ok _) => prove_ok h e10_L605) (fun (h : e10_K604.ok _) => split_on e10_q606 h (fun (h : e10_K606.ok _) => prove_ok h e10_L608) (fun (h : e10_K607.ok _) => split_on e10_q609 h (fun (h : e10_K609.ok _) => prove_ok h e10_L611) (fun (h : e10_K610.ok _) => split_on e10_q612 h (fun (h : e10_K612.ok _) => prove_ok h e10_L614) (fun (h : e10_K613.ok _) => split_on e10_q615 h (fun (h : e10_K615.ok _) => prove_ok h e10_L617) (fun (h : e10_K616.ok _) => split_on e10_q618 h (fun (h : e10_K618.ok _) => prove_ok h e10_L620) (fun (h : e10_K619.ok _) => split_on e10_q621 h (fun (h : e10_K621.ok _) => prove_ok h e10_L623) (fun (h : e10_K622.ok _) => split_on e10_q624 h (fun (h : e10_K624.ok _) => prove_ok h e10_L626) (fun (h : e10_K625.ok _) => prove_ok h e10_L627)))))))))))
def sums10 : List Sm := ⟨10, ss10, ks10, v11⟩ :: sums11
theorem sok10 : SumsOk Try.prog sums10 := sums_as mixed sok11 args10 tree10 .i64 (by kernel_rfl) (by kernel_rfl) eq10
def v15 : ST := .v (.agg [.ci .i64 (.lit (.ofNat 0)), .ci .i64 (.lit (.ofNat 0)), .ci .i64 (.lit (.ofNat 16384)), .ci .i64 (.lit (.ofNat 8192)), .cb (.bl false), .cb (.bl false), .cb (.bl false), .cb (.bl false), .cb (.bl false)])
def ss15 : List SV := []
def ks15 : List LK := []
theorem args15 : argTs Try.prog Try.f15.params.toList 0 = some (ss15, ks15) := by kernel_rfl
theorem tree15 : tree Try.prog 12 (sumsIn sums10) 300 15 ss15 bare 0 ⟨ks15.map LK.rg, []⟩ = .leaf v15 := by kernel_rfl
def sums15 : List Sm := ⟨15, ss15, ks15, v15⟩ :: sums10
theorem sok15 : SumsOk Try.prog sums15 := sums_cons mixed sok10 args15 tree15 (by kernel_rfl)
def x22_10 : X := .bin .shr .u8 (.iv 0) (.lit (.ofNat 2))
def v22 : ST := .v (.c (.ci .i64 (.ite (.cmp .lss (.iv 1) (.lit (.ofNat 15))) (.bin .mul .i64 (.iv 2) (.bin .or .i64 (.bin .shl .i64 (.iv 1) (.lit (.ofNat 8))) (.iv 0))) (.ite (.cmp .gtr x22_10 (.lit (.ofNat 20))) (.lit (.negSucc 0)) (.bin .shl .i64 (.bin .add .i64 (.bin .mul .i64 (.lit (.ofNat 2)) (.bin .and .u8 (.iv 0) (.lit (.ofNat 3)))) (.lit (.ofNat 1))) x22_10)))))
def ss22 : List SV := [.c (.ci .u8 (.iv 0)), .c (.ci .u8 (.iv 1)), .c (.ci .i64 (.iv 2))]
def ks22 : List LK := [.i .u8, .i .u8, .i .i64]
theorem args22 : argTs Try.prog Try.f22.params.toList 0 = some (ss22, ks22) := by kernel_rfl
theorem tree22 : tree Try.prog 12 (sumsIn sums15) 300 22 ss22 bare 0 ⟨ks22.map LK.rg, []⟩ = .leaf v22 := by kernel_rfl
def sums22 : List Sm := ⟨22, ss22, ks22, v22⟩ :: sums15
theorem sok22 : SumsOk Try.prog sums22 := sums_cons mixed sok15 args22 tree22 (by kernel_rfl)
def v12 : ST := .v (.c (.cb (.bl true)))
def ss12 : List SV := []
def ks12 : List LK := []
theorem args12 : argTs Try.prog Try.f12.params.toList 0 = some (ss12, ks12) := by kernel_rfl
theorem tree12 : tree Try.prog 12 (sumsIn sums22) 300 12 ss12 bare 0 ⟨ks12.map LK.rg, []⟩ = .leaf v12 := by kernel_rfl
def sums12 : List Sm := ⟨12, ss12, ks12, v12⟩ :: sums22
theorem sok12 : SumsOk Try.prog sums12 := sums_cons mixed sok22 args12 tree12 (by kernel_rfl)
def ss3 : List SV := [.agg [.ci .i64 (.iv 0), .ci .i64 (.iv 1), .ci .i64 (.iv 2), .ci .i64 (.iv 3), .cb (.bv 4), .cb (.bv 5), .cb (.bv 6), .cb (.bv 7), .cb (.bv 8)]]
def ks3 : List LK := [.i .i64, .i .i64, .i .i64, .i .i64, .b, .b, .b, .b, .b]
def rs3 : List RowV := []
theorem args3 : argRs Try.prog Try.f3.params.toList 0 0 = some (ss3, ks3, rs3) := by kernel_rfl
def T (K : Known) : Prop := (treeS Try.prog 0 (sumsIn sums12) 300 3 ss3 bare 6 K).prove 300 1000 K = true
def V (K : Known) : Prop := X.prove 20 60 K (.bl false) = true
def c_0 : X := .cmp .lss (.iv 0) (.lit (.ofNat 0))
def c_1 : X := .cmp .gtr (.iv 0) (.lit (.ofNat 7))
def c_2 : X := .cmp .eql (.iv 0) (.lit (.ofNat 5))
def c_3 : X := .cmp .eql (.iv 0) (.lit (.ofNat 6))
def c_4 : X := .cmp .eql (.iv 0) (.lit (.ofNat 0))
def c_5 : X := .cmp .eql (.iv 0) (.lit (.ofNat 1))
def c_6 : X := .cmp .eql (.iv 0) (.lit (.ofNat 2))
def c_7 : X := .cmp .eql (.iv 0) (.lit (.ofNat 3))
def c_8 : X := .cmp .eql (.iv 0) (.lit (.ofNat 4))
def c_9 : X := .cmp .eql (.iv 0) (.lit (.ofNat 7))
def K_0 : Known := addRows rs3 ⟨ks3.map LK.rg, []⟩
def K_1 : Known := K_0.assume c_0 true
def K_2 : Known := K_0.assume c_0 false
def K_3 : Known := K_2.assume c_1 true
def K_4 : Known := K_2.assume c_1 false
def K_5 : Known := K_4.assume c_2 true
def K_6 : Known := K_4.assume c_2 false
def K_7 : Known := K_6.assume c_3 true
def K_8 : Known := K_6.assume c_3 false
def K_9 : Known := K_8.assume c_4 true
def K_10 : Known := K_8.assume c_4 false
def K_11 : Known := K_10.assume c_5 true
def K_12 : Known := K_10.assume c_5 false
def K_13 : Known := K_12.assume c_6 true
def K_14 : Known := K_12.assume c_6 false
def K_15 : Known := K_14.assume c_7 true
def K_16 : Known := K_14.assume c_7 false
def K_17 : Known := K_16.assume c_8 true
def K_18 : Known := K_16.assume c_8 false
def K_19 : Known := K_18.assume c_9 true
def K_20 : Known := K_18.assume c_9 false
theorem leaf_1 : T K_1 := by unfold T; kernel_rfl
theorem leaf_3 : T K_3 := by unfold T; kernel_rfl
theorem leaf_5 : T K_5 := by unfold T; kernel_rfl
theorem leaf_7 : T K_7 := by unfold T; kernel_rfl
theorem leaf_9 : T K_9 := by unfold T; kernel_rfl
theorem leaf_11 : T K_11 := by unfold T; kernel_rfl
theorem leaf_13 : T K_13 := by unfold T; kernel_rfl
theorem leaf_15 : T K_15 := by unfold T; kernel_rfl
theorem leaf_17 : T K_17 := by unfold T; kernel_rfl
theorem leaf_19 : T K_19 := by unfold T; kernel_rfl
theorem leaf_20 : V K_20 := by unfold V; kernel_rfl
theorem plan3 : ∀ ρ, (addRows rs3 ⟨ks3.map LK.rg, []⟩).ok ρ → ∃ K d, K.ok ρ ∧ (treeS Try.prog 0 (sumsIn sums12) 300 3 ss3 bare d K).prove 300 1000 K = true := fun _ h => split_on c_0 h (fun (h : K_1.ok _) => ⟨K_1, 6, h, leaf_1⟩) (fun (h : K_2.ok _) => split_on c_1 h (fun (h : K_3.ok _) => ⟨K_3, 6, h, leaf_3⟩) (fun (h : K_4.ok _) => split_on c_2 h (fun (h : K_5.ok _) => ⟨K_5, 6, h, leaf_5⟩) (fun (h : K_6.ok _) => split_on c_3 h (fun (h : K_7.ok _) => ⟨K_7, 6, h, leaf_7⟩) (fun (h : K_8.ok _) => split_on c_4 h (fun (h : K_9.ok _) => ⟨K_9, 6, h, leaf_9⟩) (fun (h : K_10.ok _) => split_on c_5 h (fun (h : K_11.ok _) => ⟨K_11, 6, h, leaf_11⟩) (fun (h : K_12.ok _) => split_on c_6 h (fun (h : K_13.ok _) => ⟨K_13, 6, h, leaf_13⟩) (fun (h : K_14.ok _) => split_on c_7 h (fun (h : K_15.ok _) => ⟨K_15, 6, h, leaf_15⟩) (fun (h : K_16.ok _) => split_on c_8 h (fun (h : K_17.ok _) => ⟨K_17, 6, h, leaf_17⟩) (fun (h : K_18.ok _) => split_on c_9 h (fun (h : K_19.ok _) => ⟨K_19, 6, h, leaf_19⟩) (fun (h : K_20.ok _) => split_void (big := 20) (n := 60) h leaf_20))))))))))

def zeros : Env := ⟨fun _ => 0, fun _ => false, fun _ _ => 0, fun _ _ => true, fun _ => .bool false, fun _ => ⟨⟨0, 0, none⟩, .cells #[] 0 (0, 0)⟩⟩
set_option maxRecDepth 100000 in
theorem lifted3 (os : Os) (started : os.Started) (H : Type) (enc : TypeId × Value → H) :
    ReturnsInHanded {} Try.checked os 3 .any (Rows.headerMakesSpec.pre6 enc Try.prog Try.f3 Rows.headerMakesRow.domain false) (Rows.headerMakesSpec.post enc Try.prog Try.f3 false true false false) := by
  refine returnsInHanded_of_change (C := Try.checked) own started (by kernel_rfl) Try.func3
    (ChangeSpec.witness6 (enc := enc) (C := Try.checked) false ⟨#[], (ss3.map (SV.den zeros fun _ => 0)).toArray, []⟩ 8 (by kernel_rfl) (by kernel_rfl) (by kernel_rfl) (by kernel_rfl)) ?_
  intro W base args ds gs before hval0 hW _ _
  have hval : ∀ (j : Nat) t v, Try.f3.params[j]? = some t → args[j]? = some v → Value.okWide Try.prog W .any base t v := hval0
  have hW' := hW
  obtain ⟨p, q, hA0, hV, rfl, _, _⟩ := hW
  have hA : DataW.TrodAll enc Try.prog W 0 (fun _ => true) true Try.f3.params.toList args.toList ds p := hA0
  obtain ⟨rfl, rfl⟩ := trodVars_none hV
  have hA1 := hA
  rw [Try.params3] at hA1
  obtain ⟨v0, d0, _, rfl, _⟩ := trodAll_one hA1
  refine (rows_planS (r := .any) (base := base) mixed sok12 args3 plan3 (fun j t v ht hv => hval j t v (by simpa using ht) hv) hA).mono fun e W' ⟨⟨v, he, hv⟩, hb⟩ => ?_
  subst hv
  subst he
  exact ⟨_, rfl, law_post (tb := 4) laid rfl (by rw [Try.params3]; intro t ht; simp at ht; first | (subst ht; exact ⟨by kernel_rfl, of_decide_eq_true (by kernel_rfl)⟩) | (rcases ht with rfl | rfl <;> exact ⟨by kernel_rfl, of_decide_eq_true (by kernel_rfl)⟩) | (rcases ht with rfl | rfl | rfl <;> exact ⟨by kernel_rfl, of_decide_eq_true (by kernel_rfl)⟩)) rfl Try.underlying4 hW' hA hb ⟨rfl, rfl, rfl⟩⟩

theorem headerMakes_holds : Rows.HeaderMakesSaid :=
  OpenClaim.holds_of_wide 3 Try.f3 rfl rfl rfl rfl rfl rfl rfl ⟨rfl, rfl, rfl, rfl, rfl⟩ rfl rfl rfl rfl rfl (by kernel_rfl) Try.func3 (by kernel_rfl)
    (of_decide_eq_true (by kernel_rfl)) (by unfold Func.isWrapper; first | (rw [if_pos (by decide +kernel)]; kernel_rfl) | (rw [if_neg (by decide +kernel)]; exact ⟨rfl, rfl⟩))
    (fun os started H enc _ => lifted3 os started H enc)
#print axioms headerMakes_holds
end Go.Proofs.Ytolennlpkpkhhaa
