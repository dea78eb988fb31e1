/- For every input SpriteTurned answers true. -/
import Derived.Test.YtdmcmlajpajaaaaRows
import Derived.Test.YtdmcmlajpajaaaaMt2
namespace Go.Proofs.Ytdmcmlajpajaaaa
open Go.ChangeShapes Go.WideShapes Go.ChangeAt Go.RowKit Go.Sx

theorem own : ownKnob Try.prog.godebug = none := by kernel_rfl
theorem laid : laidOutB Try.prog = true := by kernel_rfl

def ssL : List SV := [.c (.xs 9536 (.lit 0) (.iv 0) (.iv 1)), .agg [.ci .i64 (.iv 2), .ci .i64 (.iv 3), .cb (.bv 4), .cb (.bv 5), .ci .u8 (.iv 6), .cb (.bv 7), .ci .u8 (.iv 8), .cb (.bv 9), .ci .i64 (.iv 10)]]
def ksL : List LK := [.i .i64, .i .i64, .i .i64, .i .i64, .b, .b, .i .u8, .b, .i .u8, .b, .i .i64]
theorem argsL : argRs Try.prog Try.f8.params.toList 0 0 = some (ssL, ksL, [(9536, 0)]) := by kernel_rfl
def lstOf (ρ : Env) (e n : Nat) : BL := (List.range n).map fun (i : Nat) => (ρ.f (rowF e 0) [(i : Int)], ρ.g (rowF e 1) [(i : Int)])
theorem lst_row (ρ : Env) {w : World} {ao : Option Addr} {e n : Nat} (hk : ksOf e = [.i .u8, .b]) (h : RowAt w ao n (ksOf e).length (rowCV ρ e)) : RowL w ao (lstOf ρ e n) := by
  intro i hi
  have hi' : i < n := by simpa [lstOf] using hi
  obtain ⟨b, off, e', hlt, hc⟩ := h i hi'
  refine ⟨b, off, e', hlt, fun j hj => ?_⟩
  have := hc j (by rw [hk]; exact hj)
  simp only [rowCV, hk] at this
  refine this.trans ?_
  match j, hj with
  | 0, _ => simp [ByC, vL, lstOf, List.getD_eq_getElem?_getD, hi', rowCell]
  | 1, _ => simp [ByC, sL, lstOf, List.getD_eq_getElem?_getD, hi', rowCell]
theorem law_env {H : Type} {enc : TypeId × Value → H} {ds : List (DataW H)} {p : List MemPlace} (ρ : Env) (w : World) (hA : (addRows [(9536, 0)] ⟨ksL.map LK.rg, []⟩).ok ρ) (hx : Go.Sx.RowsIn ρ w)
    (hd : DataW.TrodAll enc Try.prog w 0 (fun _ => true) true Try.f8.params.toList (ssL.map (SV.den ρ fun _ => 0)) ds p) :
    Calls Try.prog 8 (ssL.map (SV.den ρ fun _ => 0)).toArray w fun e w' => e = .returned (.bool true) ∧ Below w.heap.size w w' := by
  obtain ⟨ao, e1, e2, e3, e4⟩ := row_arg hx hA (e := 9536) (c := 0) (by decide) (by kernel_rfl) (by kernel_rfl) (by kernel_rfl)
  have e1' : SV.den ρ (fun _ => 0) (.c (.xs 9536 (.lit 0) (.iv 0) (.iv 1))) = .slice ao (ρ.i 0).toNat (ρ.i 1).toNat := e1
  simp only [ssL, List.map_cons, List.map_nil, e1'] at hd ⊢
  rw [Try.params8] at hd
  obtain ⟨v0, v1, d0, d1, p0, p1, hv, _, _, t1, _⟩ := trodAll_two (args := #[_, _]) hd
  cases hv
  have hl : (lstOf ρ 9536 (ρ.i 0).toNat).length = (ρ.i 0).toNat := by simp [lstOf]
  have h6 := hA.1 6 _ _ rfl
  have h8 := hA.1 8 _ _ rfl
  refine turned_any ao _ _ ((lstOf ρ 9536 (ρ.i 0).toNat).take 257) _ _ _ _ _ _ _ _ _ w e3 (by rw [List.length_take, hl]; omega)
    (fun h => by subst h; have := nil_cap Try.underlying22 t1; rw [List.length_take, hl, this.1, this.2]; exact ⟨by simp, rfl⟩)
    (takeN 257 (lst_row ρ rfl e2)) ?_ h6.1 h6.2 h8.1 h8.2
  intro k hk
  rw [List.length_take, hl] at hk
  have := e4 k (by omega) 0 _ rfl
  have h0 : vL ((lstOf ρ 9536 (ρ.i 0).toNat).take 257) k = ρ.f (rowF 9536 0) [(k : Int)] := by
    simp [vL, lstOf, List.getD_eq_getElem?_getD, show k < 257 by omega, show k < (ρ.i 0).toNat by omega]
  rw [h0]
  exact this

def zeros : Env := ⟨fun _ => 0, fun _ => false, fun _ _ => 0, fun _ _ => true, fun _ => .bool false, fun _ => ⟨⟨0, 0, none⟩, .cells #[] 0 (0, 0)⟩⟩
set_option maxRecDepth 100000 in
theorem lifted8 (os : Os) (started : os.Started) (H : Type) (enc : TypeId × Value → H) :
    ReturnsInHanded {} Try.checked os 8 .any (Rows.spriteTurnedSpec.pre6 enc Try.prog Try.f8 Rows.spriteTurnedRow.domain false) (Rows.spriteTurnedSpec.post enc Try.prog Try.f8 false true false false) := by
  refine returnsInHanded_of_change (C := Try.checked) own started (by kernel_rfl) Try.func8
    (ChangeSpec.witness6 (enc := enc) (C := Try.checked) false ⟨#[], (ssL.map (SV.den zeros fun _ => 0)).toArray, []⟩ 8 (by kernel_rfl) (by kernel_rfl) (by kernel_rfl) (by kernel_rfl)) ?_
  intro W base args ds gs before hval0 hW _ _
  have hval : ∀ (j : Nat) t v, Try.f8.params[j]? = some t → args[j]? = some v → Value.okWide Try.prog W .any base t v := hval0
  have hW' := hW
  obtain ⟨p, q, hA0, hV, rfl, _, _⟩ := hW
  have hA : DataW.TrodAll enc Try.prog W 0 (fun _ => true) true Try.f8.params.toList args.toList ds p := hA0
  obtain ⟨rfl, rfl⟩ := trodVars_none hV
  have hA1 := hA
  rw [Try.params8] at hA1
  obtain ⟨v0, v1, d0, d1, p0, p1, _, rfl, _, _, _⟩ := trodAll_two hA1
  refine (rows_hand2 (r := .any) (base := base) argsL (fun j t v ht hv => hval j t v (by simpa using ht) hv) hA (fun ρ hk hx => law_env ρ W hk hx)).mono fun e W' ⟨he, hb⟩ => ?_
  subst he
  exact ⟨_, rfl, law_post (tb := 4) laid rfl (by rw [Try.params8]; intro t ht; simp at ht; first | (subst ht; exact ⟨by kernel_rfl, of_decide_eq_true (by kernel_rfl)⟩) | (rcases ht with rfl | rfl <;> exact ⟨by kernel_rfl, of_decide_eq_true (by kernel_rfl)⟩) | (rcases ht with rfl | rfl | rfl <;> exact ⟨by kernel_rfl, of_decide_eq_true (by kernel_rfl)⟩)) rfl Try.underlying4 hW' hA hb ⟨rfl, rfl, rfl⟩⟩

theorem spriteTurned_holds : Rows.SpriteTurnedSaid :=
  OpenClaim.holds_of_wide 8 Try.f8 rfl rfl rfl rfl rfl rfl rfl ⟨rfl, rfl, rfl, rfl, rfl⟩ rfl rfl rfl rfl rfl (by kernel_rfl) Try.func8 (by kernel_rfl)
    (of_decide_eq_true (by kernel_rfl)) (by unfold Func.isWrapper; first | (rw [if_pos (by decide +kernel)]; kernel_rfl) | (rw [if_neg (by decide +kernel)]; exact ⟨rfl, rfl⟩))
    (fun os started H enc _ => lifted8 os started H enc)
#print axioms spriteTurned_holds
end Go.Proofs.Ytdmcmlajpajaaaa
