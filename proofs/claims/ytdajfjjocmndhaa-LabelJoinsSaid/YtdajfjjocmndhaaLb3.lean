import Derived.Test.YtdajfjjocmndhaaLb2
import Derived.Laws.AppendOwnNone
namespace Go.Proofs.Ytdajfjjocmndhaa
open Go.RowKit Go.Sx
theorem app_law {w : World} {ops : Array Oper} {rest : List Oper} {o : Oper} {a : Act} {Q : Exit → Act → World → Prop} (hw : Region.wanted o (yielded ops a.tmps) = true) (s x : Operand)
    (ho : o.op = .call { callee := .builtin .append, args := #[s, x], argTypes := #[22, 22] }) {base g cap n m : Nat} {L M : BL} (hs : a.eval s = .slice (some ⟨g, 0, none⟩) n cap) (hown : OwnL w base g cap L)
    (ao : Option Addr) (c : Nat) (hx : a.eval x = .slice ao m c) (hn : n = L.length) (hm : m = M.length) (hnil : ao = none → M.length = 0 ∧ c = 0) (hM : RowL w ao M) (hlen : L.length + M.length ≤ 1000000) (hbase : base ≤ w.heap.size)
    (h : ∀ g' cap' w', OwnL w' base g' cap' (L ++ M) → OwnL w' base g cap L → w.grownBy w' (some g) → (g' = g ∨ w.heap.size ≤ g') → wpList Try.prog ops Q rest (a.put o.dst (.slice (some ⟨g', 0, none⟩) (n + m) cap')) w') : wpList Try.prog ops Q (o :: rest) a w := by
  subst hn
  subst hm
  rw [← List.length_append] at h
  refine wpList_step fun K hK => ?_
  rw [if_pos hw]
  cases ao with
  | none =>
    obtain ⟨hm, rfl⟩ := hnil rfl
    obtain rfl : M = [] := List.eq_nil_of_length_eq_zero hm
    obtain ⟨i0, hi, hz0, hz1, hz2⟩ := info_parts infoB
    have hrun := run_append_owned_none (P := Try.prog) (w := w) base 22 o.type 25 i0 2 Try.underlying22 hi _ _ _ hown
    have hx' : a.eval x = .slice none 0 0 := hx
    unfold Oper.wp
    simp [execOp, ho, resolve, invoke, builtin, hs, hx', hrun, Result.andThen]
    have := h g cap w (by rw [List.append_nil]; exact hown) hown ⟨rfl, rfl, rfl, Nat.le_refl _, fun _ _ _ => rfl⟩ (.inl rfl)
    rw [List.append_nil] at this
    exact hK _ _ this
  | some ad =>
    obtain ⟨g', cap', w', hr, h1, h2, h3, h4⟩ := app_run o.type hown ad c hM hlen hbase
    unfold Oper.wp
    simp [execOp, ho, resolve, invoke, builtin, hs, hx, hr, Result.andThen]
    have := hK _ _ (h g' cap' w' h1 h2 h3 h4)
    simp only [List.length_append] at this
    exact this
theorem own_new (w : World) (base : Nat) (hb : base ≤ w.heap.size) : OwnL (w.alloc (.cells #[] 25)) base w.heap.size 0 [] :=
  ⟨rfl, .inr ⟨w.heap.size, 0, #[], rfl, hb, by show (w.heap.push _)[w.heap.size]? = _; simp, Nat.le_refl _, by decide, rfl, rfl⟩⟩
theorem fewL (ao : Option Addr) (cap : Nat) (L : BL) (w : World) (hc : L.length ≤ cap) : Calls Try.prog 10 #[.slice ao L.length cap] w fun e w' => e = .returned (.slice ao (L.take 40).length cap) ∧ w = w' := by
  rw [List.length_take, Nat.min_comm]; exact few_any ao L.length cap w hc
theorem takeL {w : World} {ao : Option Addr} {L : BL} (h : RowL w ao L) : RowL w ao (L.take 40) := by
  intro i hi
  have hi' : i < L.length ∧ i < 40 := by rw [List.length_take] at hi; omega
  obtain ⟨b, off, e, hb, hc⟩ := h i hi'.1
  refine ⟨b, off, e, hb, fun j hj => (hc j hj).trans ?_⟩
  simp only [ByC, vL, sL, List.getD_eq_getElem?_getD, List.getElem?_take_of_lt hi'.2]
theorem step3 {w w2 w3 : World} {g2 c2 g3 : Nat} {N : BL} {o : Obj} (b2 : Below w.heap.size w w2) (h2 : OwnL w2 w.heap.size g2 c2 N) (hg3 : (w2.alloc o).grownBy w3 (some w2.heap.size)) (hn3 : g3 = w2.heap.size ∨ (w2.alloc o).heap.size ≤ g3) :
    Below w.heap.size w w3 ∧ OwnL w3 w.heap.size g2 c2 N ∧ g3 ≠ g2 := by
  have hlt : g2 < w2.heap.size := (World.ownsRow.lt h2 _ rfl).2
  have hs : (w2.alloc o).heap.size = w2.heap.size + 1 := by simp
  refine ⟨(b2.alloc b2.size _).grown hg3 (b2.alloc b2.size _).size (fun k hk => by cases hk; exact b2.size), h2.same ((hg3.block g2 (by omega) (fun e => by cases e; omega)).trans (Below.heap_alloc _ _ _ hlt)), by omega⟩
theorem step4 {w w3 w4 : World} {g2 c2 g3 c3 : Nat} {N M : BL} (b3 : Below w.heap.size w w3) (h2 : OwnL w3 w.heap.size g2 c2 N) (h3 : OwnL w3 w.heap.size g3 c3 M) (ne : g3 ≠ g2) (hg4 : w3.grownBy w4 (some g3)) : Below w.heap.size w w4 ∧ OwnL w4 w.heap.size g2 c2 N := by
  have hlt : g2 < w3.heap.size := (World.ownsRow.lt h2 _ rfl).2
  have hlt3 : w.heap.size ≤ g3 := (World.ownsRow.lt h3 _ rfl).1
  exact ⟨b3.grown hg4 b3.size (fun k hk => by cases hk; exact hlt3), h2.same (hg4.block g2 hlt (fun e => by cases e; exact ne rfl))⟩
theorem row_one (w : World) (v : Int) : RowL (w.alloc (.cells #[.int .u8 v, .bool true] 25)) (some ⟨w.heap.size, 0, none⟩) [(v, true)] := by
  intro i hi
  obtain rfl : i = 0 := by simp at hi; omega
  refine ⟨w.heap.size, 0, rfl, by simp, fun j hj => ?_⟩
  match j, hj with
  | 0, _ => simp [go_sem, ByC, vL]
  | 1, _ => simp [go_sem, ByC, sL]
theorem secret_any (v : Int) (w : World) : Calls Try.prog 13 #[.int .u8 v] w fun e w' => e = .returned (.agg #[.int .u8 v, .bool true]) ∧ Below w.heap.size w w' := by
  go_enter Try.func13, Try.ntmps13
  go_wp2
  exact bodyPost_ret (v := .agg #[.int .u8 v, .bool true]) (by simp [results, Try.results13, go_sem]) rfl ⟨rfl, (Below.refl _ _).alloc (Nat.le_refl _) _⟩
theorem ofN (v : Int) (ao : Option Addr) (cap n : Nat) (L : BL) (w : World) (hn : n = L.length) (hl : n ≤ 1000000) (h : RowL w ao L) : Calls Try.prog 11 #[.int .u8 v, .slice ao n cap] w fun e w' => e = .returned (.agg #[.int .u8 v, .bool (L.any (·.2))]) ∧ Below w.heap.size w w' := by
  subst hn; exact ofL v ao cap L w hl h
theorem anyN (ao : Option Addr) (cap n : Nat) (L : BL) (w : World) (hn : n = L.length) (hl : n ≤ 1000000) (h : RowL w ao L) : Calls Try.prog 12 #[.slice ao n cap] w fun e w' => e = .returned (.bool (L.any (·.2))) ∧ Below w.heap.size w w' := by
  subst hn; exact anyL ao cap L w hl h
set_option maxRecDepth 100000 in
set_option maxHeartbeats 3200000 in
theorem joins_core (v : Int) (ao bo : Option Addr) (ca cb : Nat) (L0 M0 L M : BL) (w : World) (hca : L0.length ≤ ca) (hcb : M0.length ≤ cb) (hl0 : (L0.take 40).length = L.length) (hm0 : (M0.take 40).length = M.length) (hl40 : L.length ≤ 40) (hm40 : M.length ≤ 40) (hna : ao = none → L.length = 0 ∧ ca = 0) (hnb : bo = none → M.length = 0 ∧ cb = 0)
    (hL : RowL w ao L) (hM : RowL w bo M) :
    Calls Try.prog 3 #[.int .u8 v, .slice ao L0.length ca, .slice bo M0.length cb] w fun e w' => e = .returned (.bool true) ∧ Below w.heap.size w w' := by
  have HL := hidI hl0; have HM := hidI hm0
  clear hl0 hm0
  go_enter Try.func3, Try.ntmps3
  go_wp2_with fail
  refine (fewL ao ca L0 _ hca).mono ?_
  rw [HL.out]
  rintro e w1 ⟨rfl, rfl⟩
  go_wp2_with fail
  refine (fewL bo cb M0 _ hcb).mono ?_
  rw [HM.out]
  rintro e w1 ⟨rfl, rfl⟩
  have hLa : RowL (w.alloc (.cells #[] 25)) ao L := RowAt.below hL ((Below.refl _ _).alloc (Nat.le_refl _) _)
  have on := own_new w w.heap.size (Nat.le_refl _)
  have on2 := fun (w2 : World) (hb : Below w.heap.size w w2) => own_new w2 w.heap.size hb.size
  go_wp2_with (first
    | (at_builtin; refine app_law rfl (.tmp 13) (.tmp 14) rfl (L := []) (M := L) rfl on ao ca rfl rfl rfl hna hLa (by simp; omega) (by simp) ?_; intro g1 c1 w1 h1 _ hg1 _; rw [List.nil_append] at h1; have b1 : Below w.heap.size w w1 := ((Below.refl _ _).alloc (Nat.le_refl _) _).grown hg1 (by simp) (fun k hk => by cases hk; exact Nat.le_refl _))
    | (at_builtin; refine app_law rfl (.tmp 15) (.tmp 16) rfl (L := L) (M := M) rfl h1 bo cb rfl rfl rfl hnb (RowAt.below hM b1) (by omega) b1.size ?_; intro g2 c2 w2 h2 _ hg2 _; have b2 : Below w.heap.size w w2 := b1.grown hg2 b1.size (fun k hk => by cases hk; exact (World.ownsRow.lt h1 _ rfl).1))
    | (at_builtin; (refine app_law rfl (.tmp 18) (.tmp 19) rfl (L := []) (M := M) rfl (on2 w2 b2) bo cb rfl rfl rfl hnb (RowAt.below hM (b2.alloc b2.size _)) (by simp; omega) (b2.alloc b2.size _).size ?_); intro g3 c3 w3 h3 _ hg3 hn3; rw [List.nil_append] at h3; obtain ⟨b3, h23, ne23⟩ := step3 b2 h2 hg3 hn3)
    | (at_builtin; (refine app_law rfl (.tmp 20) (.tmp 21) rfl (L := M) (M := L) rfl h3 ao ca rfl rfl rfl hna (RowAt.below hL b3) (by omega) b3.size ?_); intro g4 c4 w4 h4 _ hg4 _; obtain ⟨b4, h24⟩ := step4 b3 h23 h3 ne23 hg4))
  clear on on2
  obtain ⟨lb, hlb⟩ : ∃ x, x = L.any (·.2) := ⟨_, rfl⟩
  obtain ⟨mb, hmb⟩ : ∃ x, x = M.any (·.2) := ⟨_, rfl⟩
  have eLM : (L ++ M).any (·.2) = (lb || mb) := by rw [List.any_append, hlb, hmb]
  have eML : (M ++ L).any (·.2) = (lb || mb) := by rw [List.any_append, hlb, hmb, Bool.or_comm]
  have E := hidI (And.intro eLM (And.intro eML (And.intro hlb hmb)))
  clear eLM eML hlb hmb
  refine (ofN v _ c2 _ (L ++ M) _ (by simp) (by omega) h24.row).mono ?_
  rw [E.out.1]
  rintro e w5 ⟨rfl, b5⟩
  have h25 := h24.below b5
  have h45 := h4.below b5
  go_wp2_with fail
  refine (ofN v _ c4 _ (M ++ L) _ (by simp) (by omega) h45.row).mono ?_
  rw [E.out.2.1]
  rintro e w6 ⟨rfl, b6⟩
  have h26 := h25.below b6
  go_wp2_with fail
  refine (anyN _ c2 _ (L ++ M) _ (by simp) (by omega) h26.row).mono ?_
  rw [E.out.1]
  rintro e w7 ⟨rfl, b7⟩
  have h27 := h26.below b7
  have bb5 := b4.trans (b5.mono b4.size)
  have bb6 := bb5.trans (b6.mono bb5.size)
  have bb7 := bb6.trans (b7.mono bb6.size)
  go_wp2_with fail
  refine (anyN _ ca _ L _ rfl (by omega) (RowAt.below hL bb7)).mono ?_
  rw [← E.out.2.2.1]
  rintro e w8 ⟨rfl, b8⟩
  have h28 := h27.below b8
  have bb8 := bb7.trans (b8.mono bb7.size)
  cases lb
  · go_wp2_with fail
    refine (anyN _ cb _ M _ rfl (by omega) (RowAt.below hM bb8)).mono ?_
    rw [← E.out.2.2.2]
    rintro e w9 ⟨rfl, b9⟩
    have h29 := h28.below b9
    have bb9 := bb8.trans (b9.mono bb8.size)
    go_wp2_with (at_builtin; (refine app_law (by rfl) (.tmp 43) (.tmp 44) rfl (L := L ++ M) (M := L ++ M) rfl h29 (some ⟨g2, 0, none⟩) c2 rfl (by simp) (by simp) (fun e => by cases e) (OwnL.row h29) (by simp; omega) bb9.size ?_); intro g5 c5 wA hA hA' hgA _)
    have bA := bb9.grown hgA bb9.size (fun k hk => by cases hk; exact (World.ownsRow.lt h29 _ rfl).1)
    refine (ofN v _ c5 _ ((L ++ M) ++ (L ++ M)) _ (by simp only [List.length_append]) (by omega) hA.row).mono ?_
    rw [List.any_append, E.out.1]
    rintro e wB ⟨rfl, bB0⟩
    have hB := hA'.below bB0
    have bB := bA.trans (bB0.mono bA.size)
    go_wp2_with fail
    refine (ofN v _ c2 _ (L ++ M) _ (by simp) (by omega) hB.row).mono ?_
    rw [E.out.1]
    rintro e wC ⟨rfl, bC0⟩
    have hC := hB.below bC0
    have bC := bB.trans (bC0.mono bB.size)
    go_wp2_with fail
    refine (secret_any v _).mono ?_
    rintro e wD ⟨rfl, bD0⟩
    have hD := hC.below bD0
    have bD := bC.trans (bD0.mono bC.size)
    have bD' := bD.alloc bD.size (.cells #[.int .u8 v, .bool true] 25)
    have hD' : OwnL (wD.alloc (.cells #[.int .u8 v, .bool true] 25)) w.heap.size g2 c2 (L ++ M) := hD.below ((Below.refl _ _).alloc (Nat.le_refl _) _)
    go_wp2_with (at_builtin; (refine app_law (by rfl) (.tmp 53) (.tmp 56) rfl (L := L ++ M) (M := [(v, true)]) rfl hD' (some ⟨wD.heap.size, 0, none⟩) 1 rfl (by simp) rfl (fun e => by cases e) (row_one _ _) (by simp; omega) bD'.size ?_); intro g6 c6 wE hE _ hgE _)
    have bE := bD'.grown hgE bD'.size (fun k hk => by cases hk; exact (World.ownsRow.lt hD' _ rfl).1)
    refine (anyN _ c6 _ ((L ++ M) ++ [(v, true)]) _ (by simp only [List.length_append]; rfl) (by omega) hE.row).mono ?_
    rw [List.any_append, show [(v, true)].any (·.2) = true from rfl, Bool.or_true]
    rintro e wF ⟨rfl, bF0⟩
    have bF := bE.trans (bF0.mono bE.size)
    go_wp2_with fail
    refine (awake_any _).mono ?_
    rintro e wG ⟨rfl, bG0⟩
    go_wp2
    go_ret
    exact ⟨rfl, bF.trans (bG0.mono bF.size)⟩
  · skip
    go_wp2_with (at_builtin; (refine app_law (by rfl) (.tmp 43) (.tmp 44) rfl (L := L ++ M) (M := L ++ M) rfl h28 (some ⟨g2, 0, none⟩) c2 rfl (by simp) (by simp) (fun e => by cases e) (OwnL.row h28) (by simp; omega) bb8.size ?_); intro g5 c5 wA hA hA' hgA _)
    have bA := bb8.grown hgA bb8.size (fun k hk => by cases hk; exact (World.ownsRow.lt h28 _ rfl).1)
    refine (ofN v _ c5 _ ((L ++ M) ++ (L ++ M)) _ (by simp only [List.length_append]) (by omega) hA.row).mono ?_
    rw [List.any_append, E.out.1]
    rintro e wB ⟨rfl, bB0⟩
    have hB := hA'.below bB0
    have bB := bA.trans (bB0.mono bA.size)
    go_wp2_with fail
    refine (ofN v _ c2 _ (L ++ M) _ (by simp) (by omega) hB.row).mono ?_
    rw [E.out.1]
    rintro e wC ⟨rfl, bC0⟩
    have hC := hB.below bC0
    have bC := bB.trans (bC0.mono bB.size)
    go_wp2_with fail
    refine (secret_any v _).mono ?_
    rintro e wD ⟨rfl, bD0⟩
    have hD := hC.below bD0
    have bD := bC.trans (bD0.mono bC.size)
    have bD' := bD.alloc bD.size (.cells #[.int .u8 v, .bool true] 25)
    have hD' : OwnL (wD.alloc (.cells #[.int .u8 v, .bool true] 25)) w.heap.size g2 c2 (L ++ M) := hD.below ((Below.refl _ _).alloc (Nat.le_refl _) _)
    go_wp2_with (at_builtin; (refine app_law (by rfl) (.tmp 53) (.tmp 56) rfl (L := L ++ M) (M := [(v, true)]) rfl hD' (some ⟨wD.heap.size, 0, none⟩) 1 rfl (by simp) rfl (fun e => by cases e) (row_one _ _) (by simp; omega) bD'.size ?_); intro g6 c6 wE hE _ hgE _)
    have bE := bD'.grown hgE bD'.size (fun k hk => by cases hk; exact (World.ownsRow.lt hD' _ rfl).1)
    refine (anyN _ c6 _ ((L ++ M) ++ [(v, true)]) _ (by simp only [List.length_append]; rfl) (by omega) hE.row).mono ?_
    rw [List.any_append, show [(v, true)].any (·.2) = true from rfl, Bool.or_true]
    rintro e wF ⟨rfl, bF0⟩
    have bF := bE.trans (bF0.mono bE.size)
    go_wp2_with fail
    refine (awake_any _).mono ?_
    rintro e wG ⟨rfl, bG0⟩
    go_wp2
    go_ret
    exact ⟨rfl, bF.trans (bG0.mono bF.size)⟩
end Go.Proofs.Ytdajfjjocmndhaa
