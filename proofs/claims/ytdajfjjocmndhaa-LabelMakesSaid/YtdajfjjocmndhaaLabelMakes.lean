/- For every input LabelMakes answers true. -/
import Derived.Test.YtdajfjjocmndhaaRows
import Derived.Test.YtdajfjjocmndhaaSx25
import Derived.WalkKit
import Derived.LoopTactic
namespace Go.Proofs.Ytdajfjjocmndhaa
open Go.ChangeShapes Go.WideShapes Go.ChangeAt Go.RowKit Go.Sx

theorem own : ownKnob Try.prog.godebug = none := by kernel_rfl
theorem laid : laidOutB Try.prog = true := by kernel_rfl
theorem mixed : Try.prog.follows .mixedOrders = true := by kernel_rfl

def v15 : ST := .v (.agg [.ci .u8 (.iv 0), .cb (.bl false)])
def ss15 : List SV := [.c (.ci .u8 (.iv 0))]
def ks15 : List LK := [.i .u8]
theorem args15 : argTs Try.prog Try.f15.params.toList 0 = some (ss15, ks15) := by kernel_rfl
theorem tree15 : tree Try.prog 12 (sumsIn []) 300 15 ss15 bare 0 ⟨ks15.map LK.rg, []⟩ = .leaf v15 := by kernel_rfl
def sums15 : List Sm := ⟨15, ss15, ks15, v15⟩ :: []
theorem sok15 : SumsOk Try.prog sums15 := sums_cons mixed sums_nil args15 tree15 (by kernel_rfl)
def v13 : ST := .v (.agg [.ci .u8 (.iv 0), .cb (.bl true)])
def ss13 : List SV := [.c (.ci .u8 (.iv 0))]
def ks13 : List LK := [.i .u8]
theorem args13 : argTs Try.prog Try.f13.params.toList 0 = some (ss13, ks13) := by kernel_rfl
theorem tree13 : tree Try.prog 12 (sumsIn sums15) 300 13 ss13 bare 0 ⟨ks13.map LK.rg, []⟩ = .leaf v13 := by kernel_rfl
def sums13 : List Sm := ⟨13, ss13, ks13, v13⟩ :: sums15
theorem sok13 : SumsOk Try.prog sums13 := sums_cons mixed sok15 args13 tree13 (by kernel_rfl)
def v17 : ST := .v (.c (.cb (.and (.beq (.bv 1) (.bv 3)) (.or (.bv 1) (.cmp .eql (.iv 0) (.iv 2))))))
def ss17 : List SV := [.agg [.ci .u8 (.iv 0), .cb (.bv 1)], .agg [.ci .u8 (.iv 2), .cb (.bv 3)]]
def ks17 : List LK := [.i .u8, .b, .i .u8, .b]
theorem args17 : argTs Try.prog Try.f17.params.toList 0 = some (ss17, ks17) := by kernel_rfl
theorem tree17 : tree Try.prog 12 (sumsIn sums13) 300 17 ss17 bare 0 ⟨ks17.map LK.rg, []⟩ = .leaf v17 := by kernel_rfl
def sums17 : List Sm := ⟨17, ss17, ks17, v17⟩ :: sums13
theorem sok17 : SumsOk Try.prog sums17 := sums_cons mixed sok13 args17 tree17 (by kernel_rfl)
def v18 : ST := .v (.c (.cb (.ite (.or (.bv 1) (.bv 3)) (.and (.bv 1) (.bv 3)) (.cmp .eql (.iv 0) (.iv 2)))))
def ss18 : List SV := [.agg [.ci .u8 (.iv 0), .cb (.bv 1)], .agg [.ci .u8 (.iv 2), .cb (.bv 3)]]
def ks18 : List LK := [.i .u8, .b, .i .u8, .b]
theorem args18 : argTs Try.prog Try.f18.params.toList 0 = some (ss18, ks18) := by kernel_rfl
theorem tree18 : tree Try.prog 12 (sumsIn sums17) 300 18 ss18 bare 0 ⟨ks18.map LK.rg, []⟩ = .leaf v18 := by kernel_rfl
def sums18 : List Sm := ⟨18, ss18, ks18, v18⟩ :: sums17
theorem sok18 : SumsOk Try.prog sums18 := sums_cons mixed sok17 args18 tree18 (by kernel_rfl)
def v19 : ST := .v (.agg [.ci .u8 (.iv 0), .cb (.bl false)])
def ss19 : List SV := [.agg [.ci .u8 (.iv 0), .cb (.bv 1)]]
def ks19 : List LK := [.i .u8, .b]
theorem args19 : argTs Try.prog Try.f19.params.toList 0 = some (ss19, ks19) := by kernel_rfl
theorem tree19 : tree Try.prog 12 (sumsIn sums18) 300 19 ss19 bare 0 ⟨ks19.map LK.rg, []⟩ = .leaf v19 := by kernel_rfl
def sums19 : List Sm := ⟨19, ss19, ks19, v19⟩ :: sums18
theorem sok19 : SumsOk Try.prog sums19 := sums_cons mixed sok18 args19 tree19 (by kernel_rfl)
def v20 : ST := .tup [.c (.ci .u16 (.bin .or .u16 (.iv 0) (.bin .shl .u16 (.iv 2) (.lit (.ofNat 8))))), .c (.cb (.or (.bv 1) (.and (.not (.bv 1)) (.bv 3))))]
def ss20 : List SV := [.agg [.ci .u8 (.iv 0), .cb (.bv 1)], .agg [.ci .u8 (.iv 2), .cb (.bv 3)]]
def ks20 : List LK := [.i .u8, .b, .i .u8, .b]
theorem args20 : argTs Try.prog Try.f20.params.toList 0 = some (ss20, ks20) := by kernel_rfl
theorem tree20 : tree Try.prog 12 (sumsIn sums19) 300 20 ss20 bare 0 ⟨ks20.map LK.rg, []⟩ = .leaf v20 := by kernel_rfl
def sums20 : List Sm := ⟨20, ss20, ks20, v20⟩ :: sums19
theorem sok20 : SumsOk Try.prog sums20 := sums_cons mixed sok19 args20 tree20 (by kernel_rfl)
def v26 : ST := .v (.agg [.ci .u8 (.bin .and .u8 (.iv 0) (.iv 2)), .cb (.or (.bv 1) (.and (.not (.bv 1)) (.bv 3)))])
def ss26 : List SV := [.agg [.ci .u8 (.iv 0), .cb (.bv 1)], .agg [.ci .u8 (.iv 2), .cb (.bv 3)]]
def ks26 : List LK := [.i .u8, .b, .i .u8, .b]
theorem args26 : argTs Try.prog Try.f26.params.toList 0 = some (ss26, ks26) := by kernel_rfl
theorem tree26 : tree Try.prog 12 (sumsIn sums20) 300 26 ss26 bare 0 ⟨ks26.map LK.rg, []⟩ = .leaf v26 := by kernel_rfl
def sums26 : List Sm := ⟨26, ss26, ks26, v26⟩ :: sums20
theorem sok26 : SumsOk Try.prog sums26 := sums_cons mixed sok20 args26 tree26 (by kernel_rfl)
def v14 : ST := .v (.c (.cb (.bl true)))
def ss14 : List SV := []
def ks14 : List LK := []
theorem args14 : argTs Try.prog Try.f14.params.toList 0 = some (ss14, ks14) := by kernel_rfl
theorem tree14 : tree Try.prog 12 (sumsIn sums26) 300 14 ss14 bare 0 ⟨ks14.map LK.rg, []⟩ = .leaf v14 := by kernel_rfl
def sums14 : List Sm := ⟨14, ss14, ks14, v14⟩ :: sums26
theorem sok14 : SumsOk Try.prog sums14 := sums_cons mixed sok26 args14 tree14 (by kernel_rfl)
def ss4 : List SV := [.c (.ci .u8 (.iv 0)), .c (.xs 9536 (.lit 0) (.iv 1) (.iv 2)), .agg [.ci .u8 (.iv 3), .cb (.bv 4)]]
def ks4 : List LK := [.i .u8, .i .i64, .i .i64, .i .u8, .b]
def rs4 : List RowV := [(9536, 1)]
theorem args4 : argRs Try.prog Try.f4.params.toList 0 0 = some (ss4, ks4, rs4) := by kernel_rfl
def gh : Gh := [(12, rowB 9536 1), (16, rowB 9536 1)]
def T (K : Known) : Prop := (tree Try.prog 0 (sumG gh sums14) 300 4 (mapS (simpV K) ss4) bare 6 K).prove 300 1000 K = true
def V (K : Known) : Prop := X.prove 20 60 K (.bl false) = true
def c_0 : X := .cmp .gtr (.iv 1) (.lit (.ofNat 40))
def c_1 : X := .cmp .leq (.lit (.ofNat 40)) (.iv 2)
def c_2 : X := .cmp .gtr (.iv 1) (.lit (.ofNat 0))
def K_0 : Known := addRows rs4 ⟨ks4.map LK.rg, []⟩
def K_1 : Known := K_0.assume c_0 true
def K_2 : Known := K_1.assume c_1 true
def K_3 : Known := K_0.assume c_0 false
def K_4 : Known := K_3.assume c_2 true
def K_5 : Known := K_3.assume c_2 false
theorem leaf_2 : T K_2 := by unfold T; kernel_rfl
theorem leaf_4 : T K_4 := by unfold T; kernel_rfl
theorem leaf_5 : T K_5 := by unfold T; kernel_rfl
theorem know_1 : X.proveE 300 1000 K_1 c_1 = true := by kernel_rfl
theorem plan4 : ∀ ρ, (addRows rs4 ⟨ks4.map LK.rg, []⟩).ok ρ → ∃ K d, K.ok ρ ∧ (tree Try.prog 0 (sumG gh sums14) 300 4 (mapS (simpV K) ss4) bare d K).prove 300 1000 K = true := fun _ h => split_on c_0 h (fun (h : K_1.ok _) => split_know c_1 h know_1 (fun (h : K_2.ok _) => ⟨K_2, 6, h, leaf_2⟩)) (fun (h : K_3.ok _) => split_on c_2 h (fun (h : K_4.ok _) => ⟨K_4, 6, h, leaf_4⟩) (fun (h : K_5.ok _) => ⟨K_5, 6, h, leaf_5⟩))

theorem ret_bool {a b : Bool} (h : a = b) : Ending.returned (.bool a) = Ending.returned (.bool b) := by rw [h]
theorem hidI {p : Prop} (h : p) : Hid p := h

def ByC (V : Nat → Int) (S : Nat → Bool) (i j : Nat) : Value := if j = 0 then .int .u8 (V i) else .bool (S i)

theorem any_zero (ao : Option Addr) (cap : Nat) (w : World) : Calls Try.prog 12 #[.slice ao 0 cap] w fun e w' => e = .returned (.bool false) ∧ Below w.heap.size w w' := by
  go_enter Try.func12, Try.ntmps12
  go_wp2
  refine wp_loop_rounds 1 ?_
  rw [rounds_succ]
  go_wp2
  go_ret
  exact ⟨rfl, Below.refl _ _⟩

theorem any_succ {n k : Nat} {S : Nat → Bool} (hk : k < n) (h : (List.range k).any S = false) : (S k = true → (List.range n).any S = true) ∧ (S k = false → (List.range (k + 1)).any S = false) := by
  refine ⟨fun hs => ?_, fun hs => ?_⟩
  · rw [List.any_eq_true]; exact ⟨k, by simpa using hk, hs⟩
  · rw [List.range_succ, List.any_append, h]; simp [hs]

set_option maxHeartbeats 400000 in
theorem any_some (b off : Nat) (n cap : Nat) (V : Nat → Int) (S : Nat → Bool) (w : World) (hb : b < w.heap.size) (hl : n ≤ 1000000) (h : ∀ i, i < n → ∀ j, j < 2 → w.cell? ⟨b, off + i * 2 + j, none⟩ = some (ByC V S i j)) :
    Calls Try.prog 12 #[.slice (some ⟨b, off, none⟩) n cap] w fun e w' => e = .returned (.bool ((List.range n).any S)) ∧ Below w.heap.size w w' := by
  go_enter Try.func12, Try.ntmps12
  go_wp2
  go_loopw [7] (fun i wr => ∃ k : Nat, k ≤ n ∧ i = .int .i64 k ∧ (List.range k).any S = false ∧ Below w.heap.size w wr) (fun i _ => n - (intOf i).toNat)
  case atStart => exact ⟨0, Nat.zero_le _, rfl, rfl, Below.refl _ _⟩
  case round =>
    obtain ⟨k, hk, rfl, ht0, hbl⟩ := hrel
    have ht := hidI ht0; clear ht0
    have hcv : k < n → wr.cell? ⟨b, off + k * 2, none⟩ = some (.int .u8 (V k)) := fun hlt => (hbl.cell (p := ⟨b, off + k * 2, none⟩) (by exact hb)).trans (h k hlt 0 (by omega))
    have hcs : k < n → wr.cell? ⟨b, off + k * 2 + 1, none⟩ = some (.bool (S k)) := fun hlt => (hbl.cell (p := ⟨b, off + k * 2 + 1, none⟩) (by exact hb)).trans (h k hlt 1 (by omega))
    go_wp2
    · go_ret
      have hlt : k < n := by assumption
      have hs : S k = true := by assumption
      exact ⟨ret_bool ((any_succ hlt ht.out).1 hs).symm, hbl.alloc hbl.size _⟩
    · go_roundw
      have hlt : k < n := by assumption
      have hs : S k = false := by assumption
      case rel => exact ⟨k + 1, by omega, by go_num, (any_succ hlt ht.out).2 hs, hbl.alloc hbl.size _⟩
      case measure => simp [intOf]; omega
    · go_ret
      have : k = n := by omega
      subst this
      exact ⟨ret_bool ht.out.symm, hbl⟩
theorem any_any (ao : Option Addr) (n cap : Nat) (V : Nat → Int) (S : Nat → Bool) (w : World) (hl : n ≤ 1000000) (h : RowAt w ao n 2 (ByC V S)) :
    Calls Try.prog 12 #[.slice ao n cap] w fun e w' => e = .returned (.bool ((List.range n).any S)) ∧ Below w.heap.size w w' := by
  by_cases hn : 0 < n
  · obtain ⟨b, off, rfl, hb, hc⟩ := h.some hn
    exact any_some b off n cap V S w hb hl hc
  · obtain rfl : n = 0 := by omega
    exact any_zero ao cap w
def cntS (S : Nat → Bool) (k : Nat) : Nat := ((List.range k).filter S).length
theorem cnt_succ (S : Nat → Bool) (k : Nat) : cntS S (k + 1) = cntS S k + (if S k then 1 else 0) := by
  unfold cntS
  rw [List.range_succ, List.filter_append]
  cases h : S k <;> simp [h]
theorem cnt_le (S : Nat → Bool) (k : Nat) : cntS S k ≤ k := by
  unfold cntS; exact Nat.le_trans (List.length_filter_le _ _) (by simp)
theorem cnt_any (S : Nat → Bool) (k : Nat) : decide (0 < cntS S k) = (List.range k).any S := by
  unfold cntS
  rw [Bool.eq_iff_iff, decide_eq_true_iff, List.length_pos_iff_exists_mem, List.any_eq_true]
  simp only [List.mem_filter]

theorem rany_zero (ao : Option Addr) (cap : Nat) (w : World) : Calls Try.prog 16 #[.slice ao 0 cap] w fun e w' => e = .returned (.bool false) ∧ Below w.heap.size w w' := by
  go_enter Try.func16, Try.ntmps16
  go_wp2
  refine wp_loop_rounds 1 ?_
  rw [rounds_succ]
  go_wp2
  go_ret
  exact ⟨rfl, Below.refl _ _⟩

set_option maxHeartbeats 400000 in
theorem rany_some (b off : Nat) (n cap : Nat) (V : Nat → Int) (S : Nat → Bool) (w : World) (hl : n ≤ 1000000) (h : ∀ i, i < n → ∀ j, j < 2 → w.cell? ⟨b, off + i * 2 + j, none⟩ = some (ByC V S i j)) :
    Calls Try.prog 16 #[.slice (some ⟨b, off, none⟩) n cap] w fun e w' => e = .returned (.bool ((List.range n).any S)) ∧ Below w.heap.size w w' := by
  go_enter Try.func16, Try.ntmps16
  go_wp2
  go_loop [3, 4] (fun c i => ∃ k : Nat, k ≤ n ∧ i = .int .i64 k ∧ c = .int .i64 (cntS S k)) (fun _ i => n - (intOf i).toNat)
  case atStart => exact ⟨0, Nat.zero_le _, rfl, rfl⟩
  case round =>
    obtain ⟨k, hk, rfl, rfl⟩ := hrel
    have hcs : k < n → w.cell? ⟨b, off + k * 2 + 1, none⟩ = some (.bool (S k)) := fun hlt => h k hlt 1 (by omega)
    have hcl := cnt_le S k
    go_wp2
    · go_round
      have hs : S k = true := by assumption
      have := cnt_succ S k
      rw [hs] at this
      case rel => exact ⟨k + 1, by omega, by go_num, by rw [this]; go_num⟩
      case measure => simp [intOf]; omega
    · go_round
      have hs : S k = false := by assumption
      have := cnt_succ S k
      rw [hs] at this
      case rel => exact ⟨k + 1, by omega, by go_num, by rw [this]; go_num⟩
      case measure => simp [intOf]; omega
    · go_ret
      have : k = n := by omega
      subst this
      refine ⟨ret_bool ?_, Below.refl _ _⟩
      rw [← cnt_any]
theorem rany_any (ao : Option Addr) (n cap : Nat) (V : Nat → Int) (S : Nat → Bool) (w : World) (hl : n ≤ 1000000) (h : RowAt w ao n 2 (ByC V S)) :
    Calls Try.prog 16 #[.slice ao n cap] w fun e w' => e = .returned (.bool ((List.range n).any S)) ∧ Below w.heap.size w w' := by
  by_cases hn : 0 < n
  · obtain ⟨b, off, rfl, _, hc⟩ := h.some hn
    exact rany_some b off n cap V S w hl hc
  · obtain rfl : n = 0 := by omega
    exact rany_zero ao cap w

theorem by_row (ρ : Env) {w : World} {ao : Option Addr} {n : Nat} (h : RowAt w ao n (ksOf 9536).length (rowCV ρ 9536)) : RowAt w ao n 2 (ByC (fun i => ρ.f (rowF 9536 0) [(i : Int)]) (fun i => ρ.g (rowF 9536 1) [(i : Int)])) := by
  intro i hi
  obtain ⟨b, off, e, hb, hc⟩ := h i hi
  refine ⟨b, off, e, hb, fun j hj => ?_⟩
  have := hc j hj
  rw [show (ksOf 9536).length = 2 from rfl] at this
  rw [this]
  match j, hj with
  | 0, _ => rfl
  | 1, _ => rfl
def g0 (rows : List RowD) (code : Nat) (args : List Int) : Bool :=
  match code, args with
  | 1, [z] => (List.range z.toNat).any fun i => gR rows (fun _ _ => false) (rowF 9536 1) [(i : Int)]
  | _, _ => false
def f0 (_ : List RowD) (_ : Nat) (_ : List Int) : Int := 0
theorem gR_hi {rows : List RowD} {g g' : Nat → List Int → Bool} {e j : Nat} (hj : j < 64) (l : List Int) : gR rows g (rowF e j) l = gR rows g' (rowF e j) l := by
  obtain ⟨h1, h2, h3⟩ := code_e e j hj
  simp only [gR, h1, h2, h3, if_false]
theorem gh_ok (rows : List RowD) (cells : List Value) : GhOk Try.prog (envR rows (f0 rows) (g0 rows) cells) gh := by
  have key : ∀ n : Nat, (envR rows (f0 rows) (g0 rows) cells).g 1 [(n : Int)] = (List.range n).any fun i => (envR rows (f0 rows) (g0 rows) cells).g (rowF 9536 1) [(i : Int)] := by
    intro n
    show g0 rows 1 [(n : Int)] = _
    simp only [g0, Int.toNat_natCast]
    congr 1
  have neg : ∀ z : Int, z < 0 → (envR rows (f0 rows) (g0 rows) cells).g 1 [z] = (envR rows (f0 rows) (g0 rows) cells).g 1 [0] := by
    intro z hz
    show g0 rows 1 [z] = g0 rows 1 [0]
    simp only [g0, show z.toNat = 0 by omega, Int.toNat_zero]
  intro f g h
  simp only [gh, List.mem_cons, Prod.mk.injEq, List.not_mem_nil, or_false] at h
  rcases h with ⟨rfl, rfl⟩ | ⟨rfl, rfl⟩
  · exact rowB_ok ⟨Try.f12, _, Try.func12, rfl, by kernel_rfl⟩ (by decide) (fun w ao n cap hn _ hr => by rw [key]; exact any_any ao n cap _ _ w hn (by_row _ hr)) neg
  · exact rowB_ok ⟨Try.f16, _, Try.func16, rfl, by kernel_rfl⟩ (by decide) (fun w ao n cap hn _ hr => by rw [key]; exact rany_any ao n cap _ _ w hn (by_row _ hr)) neg

def zeros : Env := ⟨fun _ => 0, fun _ => false, fun _ _ => 0, fun _ _ => true, fun _ => .bool false, fun _ => ⟨⟨0, 0, none⟩, .cells #[] 0 (0, 0)⟩⟩
set_option maxRecDepth 100000 in
theorem lifted4 (os : Os) (started : os.Started) (H : Type) (enc : TypeId × Value → H) :
    ReturnsInHanded {} Try.checked os 4 .any (Rows.labelMakesSpec.pre6 enc Try.prog Try.f4 Rows.labelMakesRow.domain false) (Rows.labelMakesSpec.post enc Try.prog Try.f4 false true false false) := by
  refine returnsInHanded_of_change (C := Try.checked) own started (by kernel_rfl) Try.func4
    (ChangeSpec.witness6 (enc := enc) (C := Try.checked) false ⟨#[], (ss4.map (SV.den zeros fun _ => 0)).toArray, []⟩ 8 (by kernel_rfl) (by kernel_rfl) (by kernel_rfl) (by kernel_rfl)) ?_
  intro W base args ds gs before hval0 hW _ _
  have hval : ∀ (j : Nat) t v, Try.f4.params[j]? = some t → args[j]? = some v → Value.okWide Try.prog W .any base t v := hval0
  have hW' := hW
  obtain ⟨p, q, hA0, hV, rfl, _, _⟩ := hW
  have hA : DataW.TrodAll enc Try.prog W 0 (fun _ => true) true Try.f4.params.toList args.toList ds p := hA0
  obtain ⟨rfl, rfl⟩ := trodVars_none hV
  have hA1 := hA
  rw [Try.params4] at hA1
  obtain ⟨v0, v1, v2, d0, d1, d2, p0, p1, p2, _, rfl, _, _, _, _⟩ := trodAll_three hA1
  refine (rows_planG (r := .any) (base := base) mixed sok14 f0 g0 args4 (fun rows cells _ _ => gh_ok rows cells) plan4 (fun j t v ht hv => hval j t v (by simpa using ht) hv) hA).mono fun e W' ⟨⟨v, he, hv⟩, hb⟩ => ?_
  subst hv
  subst he
  exact ⟨_, rfl, law_post (tb := 4) laid rfl (by rw [Try.params4]; intro t ht; simp at ht; first | (subst ht; exact ⟨by kernel_rfl, of_decide_eq_true (by kernel_rfl)⟩) | (rcases ht with rfl | rfl <;> exact ⟨by kernel_rfl, of_decide_eq_true (by kernel_rfl)⟩) | (rcases ht with rfl | rfl | rfl <;> exact ⟨by kernel_rfl, of_decide_eq_true (by kernel_rfl)⟩)) rfl Try.underlying4 hW' hA hb ⟨rfl, rfl, rfl⟩⟩

theorem labelMakes_holds : Rows.LabelMakesSaid :=
  OpenClaim.holds_of_wide 4 Try.f4 rfl rfl rfl rfl rfl rfl rfl ⟨rfl, rfl, rfl, rfl, rfl⟩ rfl rfl rfl rfl rfl (by kernel_rfl) Try.func4 (by kernel_rfl)
    (of_decide_eq_true (by kernel_rfl)) (by unfold Func.isWrapper; first | (rw [if_pos (by decide +kernel)]; kernel_rfl) | (rw [if_neg (by decide +kernel)]; exact ⟨rfl, rfl⟩))
    (fun os started H enc _ => lifted4 os started H enc)
#print axioms labelMakes_holds
end Go.Proofs.Ytdajfjjocmndhaa
