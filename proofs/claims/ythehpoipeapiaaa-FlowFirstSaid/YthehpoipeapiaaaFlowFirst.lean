/- For every input FlowFirst answers true. -/
import Derived.Test.YthehpoipeapiaaaRows
import Derived.Test.YthehpoipeapiaaaSx20
namespace Go.Proofs.Ythehpoipeapiaaa
open Go.ChangeShapes Go.WideShapes Go.ChangeAt Go.RowKit Go.Sx

theorem own : ownKnob Try.prog.godebug = none := by kernel_rfl
theorem laid : laidOutB Try.prog = true := by kernel_rfl
theorem mixed : Try.prog.follows .mixedOrders = true := by kernel_rfl

def v17 : ST := .v (.c (.cb (.and (.and (.cmp .geq (.iv 0) (.lit (.ofNat 0))) (.cmp .leq (.iv 0) (.lit (.ofNat 2)))) (.cmp .geq (.iv 1) (.lit (.ofNat 0))))))
def ss17 : List SV := [.c (.ci .i64 (.iv 0)), .c (.ci .i64 (.iv 1))]
def ks17 : List LK := [.i .i64, .i .i64]
theorem args17 : argTs Try.prog Try.f17.params.toList 0 = some (ss17, ks17) := by kernel_rfl
theorem tree17 : tree Try.prog 12 (sumsIn []) 300 17 ss17 bare 0 ⟨ks17.map LK.rg, []⟩ = .leaf v17 := by kernel_rfl
def sums17 : List Sm := ⟨17, ss17, ks17, v17⟩ :: []
theorem sok17 : SumsOk Try.prog sums17 := sums_cons mixed sums_nil args17 tree17 (by kernel_rfl)
def x9_1 : X := .not (.bv 0)
def x9_23 : X := .and x9_1 (.and (.cmp .eql (.iv 1) (.lit (.ofNat 0))) (.and (.cmp .eql (.iv 2) (.lit (.ofNat 0))) (.and (.cmp .eql (.iv 3) (.lit (.ofNat 0))) (.and (.cmp .eql (.iv 4) (.lit (.ofNat 0))) (.and (.cmp .eql (.iv 5) (.lit (.ofNat 0))) (.and (.cmp .eql (.iv 6) (.lit (.ofNat 0))) (.cmp .eql (.iv 7) (.lit (.ofNat 0)))))))))
def x9_24 : X := .not x9_23
def x9_42 : X := .or (.cmp .lss (.iv 4) (.lit (.ofNat 0))) (.and (.cmp .gtr (.iv 4) (.lit (.ofNat 0))) (.cmp .leq (.iv 4) (.iv 3)))
def x9_48 : X := .or (.cmp .lss (.iv 5) (.lit (.ofNat 0))) (.and (.cmp .gtr (.iv 5) (.lit (.ofNat 0))) (.cmp .leq (.iv 5) (.iv 3)))
def x9_54 : X := .or (.cmp .lss (.iv 6) (.lit (.ofNat 0))) (.and (.cmp .gtr (.iv 6) (.lit (.ofNat 0))) (.cmp .leq (.iv 6) (.iv 3)))
def v9 : ST := .v (.c (.ci .i64 (.ite (.and x9_1 (.or x9_24 x9_23)) (.ite x9_24 (.lit (.ofNat 1)) (.lit (.ofNat 0))) (.ite (.or (.not (.and (.and (.cmp .geq (.iv 1) (.lit (.ofNat 0))) (.cmp .leq (.iv 1) (.lit (.ofNat 2)))) (.cmp .geq (.iv 2) (.lit (.ofNat 0))))) (.cmp .lss (.iv 3) (.lit (.ofNat 0)))) (.lit (.ofNat 1)) (.ite (.or x9_42 (.and (.not x9_42) (.or x9_48 (.and (.not x9_48) (.or x9_54 (.and (.not x9_54) (.or (.cmp .lss (.iv 7) (.lit (.ofNat 0))) (.and (.cmp .gtr (.iv 7) (.lit (.ofNat 0))) (.cmp .leq (.iv 7) (.iv 3)))))))))) (.lit (.ofNat 1)) (.lit (.ofNat 0)))))))
def ss9 : List SV := [.agg [.cb (.bv 0), .ci .i64 (.iv 1), .ci .i64 (.iv 2), .ci .i64 (.iv 3), .ci .i64 (.iv 4), .ci .i64 (.iv 5), .ci .i64 (.iv 6), .ci .i64 (.iv 7)]]
def ks9 : List LK := [.b, .i .i64, .i .i64, .i .i64, .i .i64, .i .i64, .i .i64, .i .i64]
theorem args9 : argTs Try.prog Try.f9.params.toList 0 = some (ss9, ks9) := by kernel_rfl
theorem tree9 : tree Try.prog 12 (sumsIn sums17) 300 9 ss9 bare 0 ⟨ks9.map LK.rg, []⟩ = .leaf v9 := by kernel_rfl
def sums9 : List Sm := ⟨9, ss9, ks9, v9⟩ :: sums17
theorem sok9 : SumsOk Try.prog sums9 := sums_cons mixed sok17 args9 tree9 (by kernel_rfl)
def v18 : ST := .v (.c (.cb (.and (.cmp .geq (.iv 0) (.lit (.ofNat 0))) (.cmp .leq (.iv 0) (.lit (.ofNat 1099511627776))))))
def ss18 : List SV := [.c (.ci .i64 (.iv 0))]
def ks18 : List LK := [.i .i64]
theorem args18 : argTs Try.prog Try.f18.params.toList 0 = some (ss18, ks18) := by kernel_rfl
theorem tree18 : tree Try.prog 12 (sumsIn sums9) 300 18 ss18 bare 0 ⟨ks18.map LK.rg, []⟩ = .leaf v18 := by kernel_rfl
def sums18 : List Sm := ⟨18, ss18, ks18, v18⟩ :: sums9
theorem sok18 : SumsOk Try.prog sums18 := sums_cons mixed sok9 args18 tree18 (by kernel_rfl)
def x7_1 : X := .not (.bv 0)
def x7_23 : X := .and x7_1 (.and (.cmp .eql (.iv 1) (.lit (.ofNat 0))) (.and (.cmp .eql (.iv 2) (.lit (.ofNat 0))) (.and (.cmp .eql (.iv 3) (.lit (.ofNat 0))) (.and (.cmp .eql (.iv 4) (.lit (.ofNat 0))) (.and (.cmp .eql (.iv 5) (.lit (.ofNat 0))) (.and (.cmp .eql (.iv 6) (.lit (.ofNat 0))) (.cmp .eql (.iv 7) (.lit (.ofNat 0)))))))))
def x7_24 : X := .not x7_23
def x7_42 : X := .or (.cmp .lss (.iv 4) (.lit (.ofNat 0))) (.and (.cmp .gtr (.iv 4) (.lit (.ofNat 0))) (.cmp .leq (.iv 4) (.iv 3)))
def x7_48 : X := .or (.cmp .lss (.iv 5) (.lit (.ofNat 0))) (.and (.cmp .gtr (.iv 5) (.lit (.ofNat 0))) (.cmp .leq (.iv 5) (.iv 3)))
def x7_54 : X := .or (.cmp .lss (.iv 6) (.lit (.ofNat 0))) (.and (.cmp .gtr (.iv 6) (.lit (.ofNat 0))) (.cmp .leq (.iv 6) (.iv 3)))
def x7_70 : X := .cmp .neq (.ite (.and x7_1 (.or x7_24 x7_23)) (.ite x7_24 (.lit (.ofNat 1)) (.lit (.ofNat 0))) (.ite (.or (.not (.and (.and (.cmp .geq (.iv 1) (.lit (.ofNat 0))) (.cmp .leq (.iv 1) (.lit (.ofNat 2)))) (.cmp .geq (.iv 2) (.lit (.ofNat 0))))) (.cmp .lss (.iv 3) (.lit (.ofNat 0)))) (.lit (.ofNat 1)) (.ite (.or x7_42 (.and (.not x7_42) (.or x7_48 (.and (.not x7_48) (.or x7_54 (.and (.not x7_54) (.or (.cmp .lss (.iv 7) (.lit (.ofNat 0))) (.and (.cmp .gtr (.iv 7) (.lit (.ofNat 0))) (.cmp .leq (.iv 7) (.iv 3)))))))))) (.lit (.ofNat 1)) (.lit (.ofNat 0))))) (.lit (.ofNat 0))
def x7_86 : X := .or (.or x7_70 (.not (.and (.and (.cmp .geq (.iv 8) (.lit (.ofNat 0))) (.cmp .leq (.iv 8) (.lit (.ofNat 2)))) (.cmp .geq (.iv 9) (.lit (.ofNat 0)))))) (.not (.and (.cmp .geq (.iv 10) (.lit (.ofNat 0))) (.cmp .leq (.iv 10) (.lit (.ofNat 1099511627776)))))
def v7 : ST := .tup [.agg [.cb (.ite x7_86 (.bv 0) (.or x7_1 (.bv 0))), .ci .i64 (.ite x7_86 (.iv 1) (.ite x7_1 (.iv 8) (.iv 1))), .ci .i64 (.ite x7_86 (.iv 2) (.ite x7_1 (.iv 9) (.iv 2))), .ci .i64 (.ite x7_86 (.iv 3) (.ite x7_1 (.iv 10) (.iv 3))), .ci .i64 (.iv 4), .ci .i64 (.iv 5), .ci .i64 (.iv 6), .ci .i64 (.iv 7)], .c (.ci .i64 (.ite x7_86 (.lit (.ofNat 1)) (.lit (.ofNat 0))))]
def ss7 : List SV := [.agg [.cb (.bv 0), .ci .i64 (.iv 1), .ci .i64 (.iv 2), .ci .i64 (.iv 3), .ci .i64 (.iv 4), .ci .i64 (.iv 5), .ci .i64 (.iv 6), .ci .i64 (.iv 7)], .c (.ci .i64 (.iv 8)), .c (.ci .i64 (.iv 9)), .c (.ci .i64 (.iv 10))]
def ks7 : List LK := [.b, .i .i64, .i .i64, .i .i64, .i .i64, .i .i64, .i .i64, .i .i64, .i .i64, .i .i64, .i .i64]
theorem args7 : argTs Try.prog Try.f7.params.toList 0 = some (ss7, ks7) := by kernel_rfl
theorem tree7 : tree Try.prog 12 (sumsIn sums18) 300 7 ss7 bare 0 ⟨ks7.map LK.rg, []⟩ = .leaf v7 := by kernel_rfl
def sums7 : List Sm := ⟨7, ss7, ks7, v7⟩ :: sums18
theorem sok7 : SumsOk Try.prog sums7 := sums_cons mixed sok18 args7 tree7 (by kernel_rfl)
def x8_4 : X := .not (.bv 0)
def x8_23 : X := .and x8_4 (.and (.cmp .eql (.iv 1) (.lit (.ofNat 0))) (.and (.cmp .eql (.iv 2) (.lit (.ofNat 0))) (.and (.cmp .eql (.iv 3) (.lit (.ofNat 0))) (.and (.cmp .eql (.iv 4) (.lit (.ofNat 0))) (.and (.cmp .eql (.iv 5) (.lit (.ofNat 0))) (.and (.cmp .eql (.iv 6) (.lit (.ofNat 0))) (.cmp .eql (.iv 7) (.lit (.ofNat 0)))))))))
def x8_24 : X := .not x8_23
def x8_42 : X := .or (.cmp .lss (.iv 4) (.lit (.ofNat 0))) (.and (.cmp .gtr (.iv 4) (.lit (.ofNat 0))) (.cmp .leq (.iv 4) (.iv 3)))
def x8_48 : X := .or (.cmp .lss (.iv 5) (.lit (.ofNat 0))) (.and (.cmp .gtr (.iv 5) (.lit (.ofNat 0))) (.cmp .leq (.iv 5) (.iv 3)))
def x8_54 : X := .or (.cmp .lss (.iv 6) (.lit (.ofNat 0))) (.and (.cmp .gtr (.iv 6) (.lit (.ofNat 0))) (.cmp .leq (.iv 6) (.iv 3)))
def x8_70 : X := .cmp .neq (.ite (.and x8_4 (.or x8_24 x8_23)) (.ite x8_24 (.lit (.ofNat 1)) (.lit (.ofNat 0))) (.ite (.or (.not (.and (.and (.cmp .geq (.iv 1) (.lit (.ofNat 0))) (.cmp .leq (.iv 1) (.lit (.ofNat 2)))) (.cmp .geq (.iv 2) (.lit (.ofNat 0))))) (.cmp .lss (.iv 3) (.lit (.ofNat 0)))) (.lit (.ofNat 1)) (.ite (.or x8_42 (.and (.not x8_42) (.or x8_48 (.and (.not x8_48) (.or x8_54 (.and (.not x8_54) (.or (.cmp .lss (.iv 7) (.lit (.ofNat 0))) (.and (.cmp .gtr (.iv 7) (.lit (.ofNat 0))) (.cmp .leq (.iv 7) (.iv 3)))))))))) (.lit (.ofNat 1)) (.lit (.ofNat 0))))) (.lit (.ofNat 0))
def x8_83 : X := .or (.or (.or x8_70 (.cmp .lss (.iv 8) (.lit (.ofNat 0)))) (.cmp .geq (.iv 8) (.lit (.ofNat 4)))) (.not (.and (.cmp .geq (.iv 9) (.lit (.ofNat 0))) (.cmp .leq (.iv 9) (.lit (.ofNat 1099511627776)))))
def x8_84 : X := .not x8_83
def x8_85 : X := .cmp .eql (.iv 8) (.lit (.ofNat 0))
def x8_87 : X := .or x8_4 (.cmp .lss (.iv 9) (.iv 3))
def x8_90 : X := .cmp .eql (.iv 8) (.lit (.ofNat 1))
def x8_93 : X := .cmp .eql (.iv 8) (.lit (.ofNat 2))
def x8_100 : X := .ite x8_85 (.or x8_87 (.cmp .gtr (.iv 4) (.iv 9))) (.ite x8_90 (.or x8_87 (.cmp .gtr (.iv 5) (.iv 9))) (.ite x8_93 (.or x8_87 (.cmp .gtr (.iv 6) (.iv 9))) (.or x8_87 (.cmp .gtr (.iv 7) (.iv 9)))))
def x8_101 : X := .not x8_100
def x8_105 : X := .or x8_83 (.and x8_84 (.or x8_100 (.and x8_101 x8_85)))
def x8_106 : X := .bin .add .i64 (.iv 9) (.lit (.ofNat 1))
def x8_110 : X := .not x8_85
def x8_113 : X := .and x8_84 (.and x8_101 (.and x8_110 x8_90))
def x8_120 : X := .and x8_84 (.and x8_101 (.and x8_110 (.and (.not x8_90) x8_93)))
def v8 : ST := .tup [.agg [.cb (.bv 0), .ci .i64 (.iv 1), .ci .i64 (.iv 2), .ci .i64 (.iv 3), .ci .i64 (.ite x8_105 (.ite x8_83 (.iv 4) (.ite x8_100 (.iv 4) x8_106)) (.iv 4)), .ci .i64 (.ite x8_105 (.iv 5) (.ite x8_113 x8_106 (.iv 5))), .ci .i64 (.ite x8_105 (.iv 6) (.ite x8_113 (.iv 6) (.ite x8_120 x8_106 (.iv 6)))), .ci .i64 (.ite x8_105 (.iv 7) (.ite x8_113 (.iv 7) (.ite x8_120 (.iv 7) x8_106)))], .agg [.ci .i64 (.ite x8_105 (.ite x8_83 (.lit (.ofNat 0)) (.ite x8_100 (.lit (.ofNat 0)) (.iv 9))) (.iv 9)), .ci .i64 (.ite x8_105 (.ite x8_83 (.lit (.ofNat 0)) (.ite x8_100 (.lit (.ofNat 0)) (.iv 8))) (.iv 8)), .ci .i64 (.ite x8_105 (.ite x8_83 (.lit (.ofNat 0)) (.ite x8_100 (.lit (.ofNat 0)) (.iv 1))) (.iv 1)), .ci .i64 (.ite x8_105 (.ite x8_83 (.lit (.ofNat 0)) (.ite x8_100 (.lit (.ofNat 0)) (.iv 2))) (.iv 2)), .ci .i64 (.ite x8_105 (.ite x8_83 (.lit (.ofNat 0)) (.ite x8_100 (.lit (.ofNat 0)) (.iv 3))) (.iv 3))], .c (.cb (.or (.not x8_105) (.and x8_84 x8_101))), .c (.ci .i64 (.ite x8_105 (.ite x8_83 (.lit (.ofNat 1)) (.lit (.ofNat 0))) (.lit (.ofNat 0))))]
def ss8 : List SV := [.agg [.cb (.bv 0), .ci .i64 (.iv 1), .ci .i64 (.iv 2), .ci .i64 (.iv 3), .ci .i64 (.iv 4), .ci .i64 (.iv 5), .ci .i64 (.iv 6), .ci .i64 (.iv 7)], .c (.ci .i64 (.iv 8)), .c (.ci .i64 (.iv 9))]
def ks8 : List LK := [.b, .i .i64, .i .i64, .i .i64, .i .i64, .i .i64, .i .i64, .i .i64, .i .i64, .i .i64]
theorem args8 : argTs Try.prog Try.f8.params.toList 0 = some (ss8, ks8) := by kernel_rfl
theorem tree8 : tree Try.prog 12 (sumsIn sums7) 300 8 ss8 bare 0 ⟨ks8.map LK.rg, []⟩ = .leaf v8 := by kernel_rfl
def sums8 : List Sm := ⟨8, ss8, ks8, v8⟩ :: sums7
theorem sok8 : SumsOk Try.prog sums8 := sums_cons mixed sok7 args8 tree8 (by kernel_rfl)
def v12 : ST := .v (.c (.cb (.bl true)))
def ss12 : List SV := []
def ks12 : List LK := []
theorem args12 : argTs Try.prog Try.f12.params.toList 0 = some (ss12, ks12) := by kernel_rfl
theorem tree12 : tree Try.prog 12 (sumsIn sums8) 300 12 ss12 bare 0 ⟨ks12.map LK.rg, []⟩ = .leaf v12 := by kernel_rfl
def sums12 : List Sm := ⟨12, ss12, ks12, v12⟩ :: sums8
theorem sok12 : SumsOk Try.prog sums12 := sums_cons mixed sok8 args12 tree12 (by kernel_rfl)
def ss4 : List SV := [.agg [.cb (.bv 0), .ci .i64 (.iv 1), .ci .i64 (.iv 2), .ci .i64 (.iv 3), .ci .i64 (.iv 4), .ci .i64 (.iv 5), .ci .i64 (.iv 6), .ci .i64 (.iv 7), .ci .i64 (.iv 8), .ci .i64 (.iv 9), .ci .i64 (.iv 10), .ci .i64 (.iv 11)], .agg [.cb (.bv 12), .ci .i64 (.iv 13), .ci .i64 (.iv 14), .ci .i64 (.iv 15), .ci .i64 (.iv 16), .ci .i64 (.iv 17), .ci .i64 (.iv 18), .ci .i64 (.iv 19), .ci .i64 (.iv 20), .ci .i64 (.iv 21), .ci .i64 (.iv 22), .ci .i64 (.iv 23)]]
def ks4 : List LK := [.b, .i .i64, .i .i64, .i .i64, .i .i64, .i .i64, .i .i64, .i .i64, .i .i64, .i .i64, .i .i64, .i .i64, .b, .i .i64, .i .i64, .i .i64, .i .i64, .i .i64, .i .i64, .i .i64, .i .i64, .i .i64, .i .i64, .i .i64]
theorem args4 : argTs Try.prog Try.f4.params.toList 0 = some (ss4, ks4) := by kernel_rfl
def K_ : Known := (⟨ks4.map LK.rg, []⟩ : Known)
theorem leaf_ : (tree Try.prog 0 (sumsIn sums12) 300 4 ss4 bare 8 K_).prove 300 100 K_ = true := by kernel_rfl
theorem plan4 : ∀ ρ, (⟨ks4.map LK.rg, []⟩ : Known).ok ρ → ∃ K d, K.ok ρ ∧ (tree Try.prog 0 (sumsIn sums12) 300 4 ss4 bare d K).prove 300 100 K = true := fun ρ h => ⟨K_, 8, h, leaf_⟩

def zeros : Env := ⟨fun _ => 0, fun _ => false, fun _ _ => 0, fun _ _ => false, fun _ => .bool false⟩
set_option maxRecDepth 100000 in
theorem lifted4 (os : Os) (started : os.Started) (H : Type) (enc : TypeId × Value → H) :
    ReturnsInHanded {} Try.checked os 4 .any (Rows.flowFirstSpec.pre6 enc Try.prog Try.f4 Rows.flowFirstRow.domain false) (Rows.flowFirstSpec.post enc Try.prog Try.f4 false true false false) := by
  refine returnsInHanded_of_change (C := Try.checked) own started (by kernel_rfl) Try.func4
    (ChangeSpec.witness6 (enc := enc) (C := Try.checked) false ⟨#[], (ss4.map (SV.den zeros fun _ => 0)).toArray, []⟩ 8 (by kernel_rfl) (by kernel_rfl) (by kernel_rfl) (by kernel_rfl)) ?_
  intro W base args ds gs before hval0 hW _ _
  have hval : ∀ (j : Nat) t v, Try.f4.params[j]? = some t → args[j]? = some v → Value.okWide Try.prog W .any base t v := hval0
  have hW' := hW
  obtain ⟨p, q, hA0, hV, rfl, _, _⟩ := hW
  have hA : DataW.TrodAll enc Try.prog W 0 (fun _ => true) true Try.f4.params.toList args.toList ds p := hA0
  obtain ⟨rfl, rfl⟩ := trodVars_none hV
  have hA1 := hA
  rw [Try.params4] at hA1
  obtain ⟨v0, v1, d0, d1, p0, p1, e1, rfl, _, _, _⟩ := trodAll_two hA1
  refine (flat_plan (r := .any) (base := base) mixed sok12 args4 plan4 (w := W) (by rw [e1]; rfl) (fun j t v ht hv => hval j t v (by simpa using ht) hv)).mono fun e W' ⟨⟨v, he, hv⟩, hb⟩ => ?_
  subst hv
  subst he
  exact ⟨_, rfl, law_post (tb := 4) laid rfl (by rw [Try.params4]; intro t ht; simp at ht; first | (subst ht; exact ⟨by kernel_rfl, of_decide_eq_true (by kernel_rfl)⟩) | (rcases ht with rfl | rfl <;> exact ⟨by kernel_rfl, of_decide_eq_true (by kernel_rfl)⟩) | (rcases ht with rfl | rfl | rfl <;> exact ⟨by kernel_rfl, of_decide_eq_true (by kernel_rfl)⟩)) rfl Try.underlying4 hW' hA hb ⟨rfl, rfl, rfl⟩⟩

theorem flowFirst_holds : Rows.FlowFirstSaid :=
  OpenClaim.holds_of_wide 4 Try.f4 rfl rfl rfl rfl rfl rfl rfl ⟨rfl, rfl, rfl, rfl, rfl⟩ rfl rfl rfl rfl rfl (by kernel_rfl) Try.func4 (by kernel_rfl)
    (of_decide_eq_true (by kernel_rfl)) (by unfold Func.isWrapper; first | (rw [if_pos (by decide +kernel)]; kernel_rfl) | (rw [if_neg (by decide +kernel)]; exact ⟨rfl, rfl⟩))
    (fun os started H enc _ => lifted4 os started H enc)
#print axioms flowFirst_holds
end Go.Proofs.Ythehpoipeapiaaa
