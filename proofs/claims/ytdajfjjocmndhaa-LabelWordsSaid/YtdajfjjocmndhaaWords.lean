/- For every input LabelWords answers true: two bytes as a number, and back. -/
import Derived.Test.YtdajfjjocmndhaaRows
import Derived.Test.YtdajfjjocmndhaaSx18
namespace Go.Proofs.Ytdajfjjocmndhaa
open Go.ChangeShapes Go.WideShapes Go.ChangeAt Go.RowKit Go.Sx

theorem own : ownKnob Try.prog.godebug = none := by kernel_rfl
theorem laid : laidOutB Try.prog = true := by kernel_rfl
theorem mixed : Try.prog.follows .mixedOrders = true := by kernel_rfl

def ks5 : List LK := [.i .u8, .b, .i .u8, .b, .i .u8, .b, .i .u8, .i .u8, .i .u8, .i .i64, .i .u16, .b]
def ss5 : List SV := [.agg (cellsFrom ks5 0)]
theorem args5 : argTs Try.prog Try.f5.params.toList 0 = some (ss5, ks5) := by kernel_rfl
theorem tree5 : tree Try.prog (fun _ => none) 100 5 ss5 bare 0 ⟨ks5.map LK.rg, []⟩ = .leaf (.v (.c (.cb
  ((((X.cmp BinOp.eql (X.bin BinOp.or IntKind.u16 (X.iv 0) (X.bin BinOp.shl IntKind.u16 (X.iv 2) (X.lit (Int.ofNat 8)))) (X.bin BinOp.add IntKind.i64 (X.iv 0) (X.bin BinOp.mul IntKind.i64 (X.lit (Int.ofNat 256)) (X.iv 2)))).and
                  (X.cmp BinOp.eql (X.wrap IntKind.u8 (X.iv 10)) (X.bin BinOp.rem IntKind.i64 (X.iv 10) (X.lit (Int.ofNat 256))))).and
              (X.cmp BinOp.eql (X.bin BinOp.shr IntKind.u16 (X.iv 10) (X.lit (Int.ofNat 8))) (X.bin BinOp.quo IntKind.i64 (X.iv 10) (X.lit (Int.ofNat 256))))).and
          (X.cmp BinOp.eql (X.bin BinOp.or IntKind.u16 (X.wrap IntKind.u8 (X.iv 10)) (X.bin BinOp.shl IntKind.u16 (X.bin BinOp.shr IntKind.u16 (X.iv 10) (X.lit (Int.ofNat 8))) (X.lit (Int.ofNat 8)))) (X.iv 10)))))) := by kernel_rfl

theorem true5 (ρ : Env) (h : Go.Sx.Good (fun _ _ => 0) (fun _ _ => false) ks5 ρ) : (tree Try.prog (fun _ => none) 100 5 ss5 bare 0 ⟨ks5.map LK.rg, []⟩).den ρ = .bool true := by
  have r0 := h.2.2.1 0 0 255 rfl
  have r2 := h.2.2.1 2 0 255 rfl
  have r10 := h.2.2.1 10 0 65535 rfl
  rw [tree5]
  simp only [Tree.den, ST.den, SV.den, SC.den, X.B, X.I, cmpI, Int.ofNat_eq_natCast, Int.cast_ofNat_Int]
  generalize ρ.i 0 = a at *
  generalize ρ.i 2 = b at *
  generalize ρ.i 10 = c at *
  have w8 : IntKind.u8.wrap c = c % 256 := by simp [IntKind.wrap, IntKind.bits, IntKind.signed]
  have s8 : arith .shr .u16 c 8 = c / 256 := by
    have := shr_nat .u16 (x := c) 8 (by simp [IntKind.bits])
    simpa using this
  rw [word_nat r0.1 r0.2 r2.1 r2.2, mul_small .i64 (by omega) (by simp [kHi]; omega), add_small .i64 (by omega) (by simp [kHi]; omega), w8, s8, rem_nat .i64 r10.1, quo_nat .i64 r10.1 (by simp [kHi]; omega) (by omega),
    word_nat (by omega) (by omega) (by omega) (by omega)]
  have e : c % 256 + 256 * (c / 256) = c := by omega
  simp [e]

set_option maxRecDepth 100000 in
theorem lifted5 (os : Os) (started : os.Started) (H : Type) (enc : TypeId × Value → H) :
    ReturnsInHanded {} Try.checked os 5 .any (Rows.labelWordsSpec.pre6 enc Try.prog Try.f5 Rows.labelWordsRow.domain false) (Rows.labelWordsSpec.post enc Try.prog Try.f5 false true false false) := by
  refine returnsInHanded_of_change (C := Try.checked) own started (by kernel_rfl) Try.func5
    (ChangeSpec.witness6 (enc := enc) (C := Try.checked) false ⟨#[], #[.agg #[.int .u8 0, .bool false, .int .u8 0, .bool false, .int .u8 0, .bool false, .int .u8 0, .int .u8 0, .int .u8 0, .int .i64 0, .int .u16 0, .bool false]], []⟩ 8 (by kernel_rfl) (by kernel_rfl) (by kernel_rfl) (by kernel_rfl)) ?_
  intro W base args ds gs before hval0 hW _ _
  have hval : ∀ (j : Nat) t v, Try.f5.params[j]? = some t → args[j]? = some v → Value.okWide Try.prog W .any base t v := hval0
  have hW' := hW
  obtain ⟨p, q, hA0, hV, rfl, _, _⟩ := hW
  have hA : DataW.TrodAll enc Try.prog W 0 (fun _ => true) true Try.f5.params.toList args.toList ds p := hA0
  obtain ⟨rfl, rfl⟩ := trodVars_none hV
  have hA1 := hA
  rw [Try.params5] at hA1
  obtain ⟨v0, d0, e1, rfl, _⟩ := trodAll_one hA1
  refine (flat_calls (r := .any) (base := base) mixed (fun _ _ => 0) (fun _ _ => false) (fun ρ _ _ => noSum _ ρ) args5 (fuel := 100) (d := 0) (by rw [tree5]; rfl) (T := fun v => v = .bool true) true5 (w := W) (by rw [e1]; rfl) (fun j t v ht hv => hval j t v (by simpa using ht) hv)).mono fun e W' ⟨⟨v, he, hv⟩, hb⟩ => ?_
  subst hv
  subst he
  exact ⟨_, rfl, law_post (tb := 4) laid rfl (by rw [Try.params5]; intro t ht; simp at ht; subst ht; exact ⟨by kernel_rfl, of_decide_eq_true (by kernel_rfl)⟩) rfl Try.underlying4 hW' hA hb ⟨rfl, rfl, rfl⟩⟩

theorem words_holds : Rows.LabelWordsSaid :=
  OpenClaim.holds_of_wide 5 Try.f5 rfl rfl rfl rfl rfl rfl rfl ⟨rfl, rfl, rfl, rfl, rfl⟩ rfl rfl rfl rfl rfl (by kernel_rfl) Try.func5 (by kernel_rfl)
    (of_decide_eq_true (by kernel_rfl)) (by unfold Func.isWrapper; first | (rw [if_pos (by decide +kernel)]; kernel_rfl) | (rw [if_neg (by decide +kernel)]; exact ⟨rfl, rfl⟩))
    (fun os started H enc _ => lifted5 os started H enc)
#print axioms words_holds
end Go.Proofs.Ytdajfjjocmndhaa
