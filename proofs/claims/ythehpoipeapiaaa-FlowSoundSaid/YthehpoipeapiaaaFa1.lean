import Derived.Test.YthehpoipeapiaaaProg
import Derived.WalkKit
import Derived.Outline
import Derived.LoopTactic
import Derived.KernelRfl
import Derived.Deep.QuietTactic
import Derived.BigQuiet
import Derived.Test.YthehpoipeapiaaaSx25
import Derived.RegionTactic
import Derived.BigRegion
import Derived.Laws.AppendOwn
import Derived.Laws.AppendOwnNone
import Derived.Deep.RegionHeld3
import Derived.Deep.RegionWith
import Derived.Deep.DeepCutAuto
namespace Go.Proofs.Ythehpoipeapiaaa
open Go.RowKit Go.Sx
theorem mixed : Try.prog.follows .mixedOrders = true := by kernel_rfl
theorem awake_shown : (tree Try.prog 12 (fun _ => none) 300 12 [] bare 0 ⟨[], []⟩).prove 300 100 ⟨[], []⟩ = true := by kernel_rfl
theorem awake_any (w : World) : Calls Try.prog 12 #[] w fun e w' => e = .returned (.bool true) ∧ Below w.heap.size w w' :=
  (flat_true (ts := []) (ss := []) (ks := []) (r := .any) (base := 0) mixed rfl awake_shown (w := w) rfl (fun j t v h => by simp at h)).mono fun _ _ ⟨⟨_, he, hv⟩, hb⟩ => ⟨by rw [he, hv], hb⟩
theorem ret_bool {a b : Bool} (h : a = b) : Ending.returned (.bool a) = Ending.returned (.bool b) := by rw [h]
theorem ret_int {k : IntKind} {a b : Int} (h : a = b) : Ending.returned (.int k a) = Ending.returned (.int k b) := by rw [h]
theorem hidI {p : Prop} (h : p) : Hid p := h
theorem below_drewN {B : Nat} {a w : World} (h : Below B a w) (n : Nat) : Below B a (w.drewN n) := h.trans ⟨rfl, rfl, rfl, Nat.le_refl _, fun _ _ => rfl⟩
theorem blk_cell {w : World} {g : Nat} {cs : Array Value} {t : TypeId} {fr : Nat × Nat} (h : w.heap[g]? = some (.cells cs t fr)) (j : Nat) : w.cell? ⟨g, j, none⟩ = cs[j]? := by simp [World.cell?, h]
theorem blk_free {w : World} {g : Nat} {cs : Array Value} {t : TypeId} (h : w.heap[g]? = some (.cells cs t (0, 0))) (j : Nat) : w.frozen? ⟨g, j, none⟩ = false := by simp [World.frozen?, h]
theorem blk_lt {w : World} {g : Nat} {o : Obj} (h : w.heap[g]? = some o) : g < w.heap.size := (Array.getElem?_eq_some_iff.1 h).1
theorem blk_alloc {w : World} {g : Nat} {o : Obj} (h : w.heap[g]? = some o) (x : Obj) : (w.alloc x).heap[g]? = some o := by rw [Below.heap_alloc _ _ _ (blk_lt h)]; exact h
theorem blk_new (w : World) (x : Obj) : (w.alloc x).heap[w.heap.size]? = some x := by show (w.heap.push _)[w.heap.size]? = _; simp
theorem blk_new' {w : World} {g : Nat} (x : Obj) (h : w.heap.size = g) : (w.alloc x).heap[g]? = some x := by subst h; exact blk_new w x
theorem blk_set {w : World} {g : Nat} {cs : Array Value} {t : TypeId} {fr : Nat × Nat} (h : w.heap[g]? = some (.cells cs t fr)) (j : Nat) (v : Value) : (w.setCell ⟨g, j, none⟩ v).heap[g]? = some (.cells (cs.setIfInBounds j v) t fr) := by
  simp only [World.setCell]
  rw [Array.getElem?_modify, if_pos rfl, h]
  rfl
theorem blk_other {w : World} {g : Nat} {a : Addr} (h : a.block ≠ g) (v : Value) : (w.setCell a v).heap[g]? = w.heap[g]? := by
  simp only [World.setCell]
  rw [Array.getElem?_modify, if_neg h]
theorem ext_le (p : ByteArray) (k : Nat) : (p.extract 0 k).size ≤ k := by rw [ByteArray.size_extract]; omega
theorem any_succ {n k : Nat} {S : Nat → Bool} (hk : k < n) (h : (List.range k).any S = false) : (S k = true → (List.range n).any S = true) ∧ (S k = false → (List.range (k + 1)).any S = false) := by
  refine ⟨fun hs => ?_, fun hs => ?_⟩
  · rw [List.any_eq_true]; exact ⟨k, by simpa using hk, hs⟩
  · rw [List.range_succ, List.any_append, h]; simp [hs]
theorem b4 {w0 w : World} {A B : Nat} (h : Below A w0 w) (hB : A ≤ B) (v0 v1 v2 v3 : Value) : Below A w0 ((((w.setCell ⟨B, 0, none⟩ v0).setCell ⟨B, 1, none⟩ v1).setCell ⟨B, 2, none⟩ v2).setCell ⟨B, 3, none⟩ v3) :=
  (((h.setCell (p := ⟨B, 0, none⟩) hB v0).setCell (p := ⟨B, 1, none⟩) hB v1).setCell (p := ⟨B, 2, none⟩) hB v2).setCell (p := ⟨B, 3, none⟩) hB v3
/-- A policy's value. -/
abbrev poV (p0 p1 : Bool) (ra : Option Addr) (rn rc : Nat) (sa : Option Addr) (sn sc : Nat) : Value := .agg #[.bool p0, .bool p1, .slice ra rn rc, .slice sa sn sc]
theorem ret_sl {a : Option Addr} {n m c : Nat} (h : n = m) : Ending.returned (.slice a n c) = Ending.returned (.slice a m c) := by rw [h]
theorem ranges_any (ao : Option Addr) (n c : Nat) (w : World) (hc : n ≤ c) : Calls Try.prog 19 #[.slice ao n c] w fun e w' => e = .returned (.slice ao (min n 20) c) ∧ w = w' := by
  go_enter Try.func19, Try.ntmps19
  go_wp2
  · go_ret
    exact ⟨ret_sl (by omega), rfl⟩
  · go_ret
    exact ⟨ret_sl (by omega), rfl⟩
set_option maxRecDepth 100000 in
set_option maxHeartbeats 1600000 in
theorem few3_any (p0 p1 : Bool) (ra : Option Addr) (rn rc : Nat) (sa : Option Addr) (sn sc : Nat) (w : World) (hr : rn ≤ rc) (hs : sn ≤ sc) : Calls Try.prog 13 #[poV p0 p1 ra rn rc sa sn sc] w fun e w' => e = .returned (poV p0 p1 ra (min rn 20) rc sa (min sn 20) sc) ∧ Below w.heap.size w w' := by
  obtain ⟨m, hm⟩ : ∃ m, m = min rn 20 := ⟨_, rfl⟩
  obtain ⟨l, hl⟩ : ∃ l, l = min sn 20 := ⟨_, rfl⟩
  rw [← hm, ← hl]
  have HM := hidI hm; clear hm
  have HL := hidI hl; clear hl
  go_enter Try.func13, Try.ntmps13
  go_upto_region 1 with fail
  refine wp_region_noPanic ?_
  refine wp_region_held_drew (S := (fun _ => True)) (by kernel_rfl) trivial (fun hHeld => ?_)
  refine wpAnyH_take (i := 0) (oi := ⟨_, _, _, _, _, _⟩) (v := ?_) rfl (by kernel_rfl) (by kernel_rfl) (by kernel_rfl) (fun _ _ _ h => h) (Or.inl ⟨by rfl, ?_⟩) (by assumption) ?_
  rotate_left
  · (intro w hSw; (try dsimp only at hSw); go_simp); with_reducible rfl
  simp only [Act.put, List.setIfInBounds_toArray, List.set_cons_zero, List.set_cons_succ]
  refine wpAnyH_take (i := 3) (oi := ⟨_, _, _, _, _, _⟩) (v := ?_) rfl (by kernel_rfl) (by kernel_rfl) (by kernel_rfl) (fun _ _ _ h => h) (Or.inl ⟨by rfl, ?_⟩) (by assumption) ?_
  rotate_left
  · (intro w hSw; (try dsimp only at hSw); go_simp); with_reducible rfl
  simp only [Act.put, List.setIfInBounds_toArray, List.set_cons_zero, List.set_cons_succ]
  refine wpAnyH_ready (rs := [1, 4]) (by kernel_rfl) (by simp) ?_
  refine AllReadyH.cons (o := ⟨_, _, _, _, _, _⟩) rfl (fun K hK => ?_) (AllReadyH.cons (o := ⟨_, _, _, _, _, _⟩) rfl (fun K hK => ?_) (AllReadyH.nil))
  · go_simp
    refine hK.out _ _ trivial (fun hHeld => ?_)
    clear hK K
    refine wpAnyH_ready (rs := [2, 4]) (by kernel_rfl) (by simp) ?_
    refine AllReadyH.cons (o := ⟨_, _, _, _, _, _⟩) rfl (fun K hK => ?_) (AllReadyH.cons (o := ⟨_, _, _, _, _, _⟩) rfl (fun K hK => ?_) (AllReadyH.nil))
    · go_simp
      refine (ranges_any ra rn rc _ hr).mono ?_
      rw [← HM.out]
      rintro e w1 ⟨rfl, rfl⟩
      refine hK.out _ _ trivial (fun hHeld => ?_)
      clear hK K
      refine wpAnyH_ready (rs := [4]) (by kernel_rfl) (by simp) ?_
      refine AllReadyH.cons (o := ⟨_, _, _, _, _, _⟩) rfl (fun K hK => ?_) (AllReadyH.nil)
      go_simp
      refine hK.out _ _ trivial (fun hHeld => ?_)
      clear hK K
      refine wpAnyH_take (i := 6) (oi := ⟨_, _, _, _, _, _⟩) (v := ?_) rfl (by kernel_rfl) (by kernel_rfl) (by kernel_rfl) (fun _ _ _ h => h) (Or.inl ⟨by rfl, ?_⟩) (by assumption) ?_
      rotate_left
      · (intro w hSw; (try dsimp only at hSw); go_simp); with_reducible rfl
      simp only [Act.put, List.setIfInBounds_toArray, List.set_cons_zero, List.set_cons_succ]
      refine wpAnyH_ready (rs := [5]) (by kernel_rfl) (by simp) ?_
      refine AllReadyH.cons (o := ⟨_, _, _, _, _, _⟩) rfl (fun K hK => ?_) (AllReadyH.nil)
      go_simp
      refine (ranges_any sa sn sc _ hs).mono ?_
      rw [← HL.out]
      rintro e w1 ⟨rfl, rfl⟩
      refine hK.out _ _ trivial (fun hHeld => ?_)
      clear hK K
      refine wpAnyH_ready (rs := [7]) (by kernel_rfl) (by simp) ?_
      refine AllReadyH.cons (o := ⟨_, _, _, _, _, _⟩) rfl (fun K hK => ?_) (AllReadyH.nil)
      go_simp
      refine hK.out _ _ trivial (fun hHeld => ?_)
      clear hK K
      refine wpAnyH_take (i := 8) (oi := ⟨_, _, _, _, _, _⟩) (v := ?_) rfl (by kernel_rfl) (by kernel_rfl) (by kernel_rfl) (fun _ _ _ h => h) (Or.inl ⟨by rfl, ?_⟩) (by assumption) ?_
      rotate_left
      · (intro w hSw; (try dsimp only at hSw); go_simp); with_reducible rfl
      simp only [Act.put, List.setIfInBounds_toArray, List.set_cons_zero, List.set_cons_succ]
      refine wpAnyH_ready (rs := [9]) (by kernel_rfl) (by simp) ?_
      refine AllReadyH.cons (o := ⟨_, _, _, _, _, _⟩) rfl (fun K hK => ?_) (AllReadyH.nil)
      go_simp
      refine hK.out _ _ trivial (fun hHeld => ?_)
      clear hK K
      refine wpAnyH_done (by kernel_rfl) (NoPanic.normal ?_) _
      go_wp2_with fail
      refine bodyPost_ret (v := poV p0 p1 ra m rc sa l sc) (by simp [results, Try.results13, go_sem]) rfl ⟨rfl, ?_⟩
      exact (((Below.refl _ _).alloc (Nat.le_refl _) _).alloc (by simp) _).drew
    · go_simp
      refine hK.out _ _ trivial (fun hHeld => ?_)
      clear hK K
      refine wpAnyH_ready (rs := [2]) (by kernel_rfl) (by simp) ?_
      refine AllReadyH.cons (o := ⟨_, _, _, _, _, _⟩) rfl (fun K hK => ?_) (AllReadyH.nil)
      go_simp
      refine (ranges_any ra rn rc _ hr).mono ?_
      rw [← HM.out]
      rintro e w1 ⟨rfl, rfl⟩
      refine hK.out _ _ trivial (fun hHeld => ?_)
      clear hK K
      refine wpAnyH_take (i := 6) (oi := ⟨_, _, _, _, _, _⟩) (v := ?_) rfl (by kernel_rfl) (by kernel_rfl) (by kernel_rfl) (fun _ _ _ h => h) (Or.inl ⟨by rfl, ?_⟩) (by assumption) ?_
      rotate_left
      · (intro w hSw; (try dsimp only at hSw); go_simp); with_reducible rfl
      simp only [Act.put, List.setIfInBounds_toArray, List.set_cons_zero, List.set_cons_succ]
      refine wpAnyH_ready (rs := [5]) (by kernel_rfl) (by simp) ?_
      refine AllReadyH.cons (o := ⟨_, _, _, _, _, _⟩) rfl (fun K hK => ?_) (AllReadyH.nil)
      go_simp
      refine (ranges_any sa sn sc _ hs).mono ?_
      rw [← HL.out]
      rintro e w1 ⟨rfl, rfl⟩
      refine hK.out _ _ trivial (fun hHeld => ?_)
      clear hK K
      refine wpAnyH_ready (rs := [7]) (by kernel_rfl) (by simp) ?_
      refine AllReadyH.cons (o := ⟨_, _, _, _, _, _⟩) rfl (fun K hK => ?_) (AllReadyH.nil)
      go_simp
      refine hK.out _ _ trivial (fun hHeld => ?_)
      clear hK K
      refine wpAnyH_take (i := 8) (oi := ⟨_, _, _, _, _, _⟩) (v := ?_) rfl (by kernel_rfl) (by kernel_rfl) (by kernel_rfl) (fun _ _ _ h => h) (Or.inl ⟨by rfl, ?_⟩) (by assumption) ?_
      rotate_left
      · (intro w hSw; (try dsimp only at hSw); go_simp); with_reducible rfl
      simp only [Act.put, List.setIfInBounds_toArray, List.set_cons_zero, List.set_cons_succ]
      refine wpAnyH_ready (rs := [9]) (by kernel_rfl) (by simp) ?_
      refine AllReadyH.cons (o := ⟨_, _, _, _, _, _⟩) rfl (fun K hK => ?_) (AllReadyH.nil)
      go_simp
      refine hK.out _ _ trivial (fun hHeld => ?_)
      clear hK K
      refine wpAnyH_done (by kernel_rfl) (NoPanic.normal ?_) _
      go_wp2_with fail
      refine bodyPost_ret (v := poV p0 p1 ra m rc sa l sc) (by simp [results, Try.results13, go_sem]) rfl ⟨rfl, ?_⟩
      exact (((Below.refl _ _).alloc (Nat.le_refl _) _).alloc (by simp) _).drew
  · go_simp
    refine hK.out _ _ trivial (fun hHeld => ?_)
    clear hK K
    refine wpAnyH_ready (rs := [1]) (by kernel_rfl) (by simp) ?_
    refine AllReadyH.cons (o := ⟨_, _, _, _, _, _⟩) rfl (fun K hK => ?_) (AllReadyH.nil)
    go_simp
    refine hK.out _ _ trivial (fun hHeld => ?_)
    clear hK K
    refine wpAnyH_ready (rs := [2]) (by kernel_rfl) (by simp) ?_
    refine AllReadyH.cons (o := ⟨_, _, _, _, _, _⟩) rfl (fun K hK => ?_) (AllReadyH.nil)
    go_simp
    refine (ranges_any ra rn rc _ hr).mono ?_
    rw [← HM.out]
    rintro e w1 ⟨rfl, rfl⟩
    refine hK.out _ _ trivial (fun hHeld => ?_)
    clear hK K
    refine wpAnyH_take (i := 6) (oi := ⟨_, _, _, _, _, _⟩) (v := ?_) rfl (by kernel_rfl) (by kernel_rfl) (by kernel_rfl) (fun _ _ _ h => h) (Or.inl ⟨by rfl, ?_⟩) (by assumption) ?_
    rotate_left
    · (intro w hSw; (try dsimp only at hSw); go_simp); with_reducible rfl
    simp only [Act.put, List.setIfInBounds_toArray, List.set_cons_zero, List.set_cons_succ]
    refine wpAnyH_ready (rs := [5]) (by kernel_rfl) (by simp) ?_
    refine AllReadyH.cons (o := ⟨_, _, _, _, _, _⟩) rfl (fun K hK => ?_) (AllReadyH.nil)
    go_simp
    refine (ranges_any sa sn sc _ hs).mono ?_
    rw [← HL.out]
    rintro e w1 ⟨rfl, rfl⟩
    refine hK.out _ _ trivial (fun hHeld => ?_)
    clear hK K
    refine wpAnyH_ready (rs := [7]) (by kernel_rfl) (by simp) ?_
    refine AllReadyH.cons (o := ⟨_, _, _, _, _, _⟩) rfl (fun K hK => ?_) (AllReadyH.nil)
    go_simp
    refine hK.out _ _ trivial (fun hHeld => ?_)
    clear hK K
    refine wpAnyH_take (i := 8) (oi := ⟨_, _, _, _, _, _⟩) (v := ?_) rfl (by kernel_rfl) (by kernel_rfl) (by kernel_rfl) (fun _ _ _ h => h) (Or.inl ⟨by rfl, ?_⟩) (by assumption) ?_
    rotate_left
    · (intro w hSw; (try dsimp only at hSw); go_simp); with_reducible rfl
    simp only [Act.put, List.setIfInBounds_toArray, List.set_cons_zero, List.set_cons_succ]
    refine wpAnyH_ready (rs := [9]) (by kernel_rfl) (by simp) ?_
    refine AllReadyH.cons (o := ⟨_, _, _, _, _, _⟩) rfl (fun K hK => ?_) (AllReadyH.nil)
    go_simp
    refine hK.out _ _ trivial (fun hHeld => ?_)
    clear hK K
    refine wpAnyH_done (by kernel_rfl) (NoPanic.normal ?_) _
    go_wp2_with fail
    refine bodyPost_ret (v := poV p0 p1 ra m rc sa l sc) (by simp [results, Try.results13, go_sem]) rfl ⟨rfl, ?_⟩
    exact (((Below.refl _ _).alloc (Nat.le_refl _) _).alloc (by simp) _).drew
def RgC (F T : Nat → Int) (i j : Nat) : Value := if j = 0 then .int .i64 (F i) else .int .i64 (T i)
/-- Ranges in memory. -/
abbrev RgAt (w : World) (ao : Option Addr) (n : Nat) (F T : Nat → Int) : Prop := RowAt w ao n 2 (RgC F T)
theorem RgAt.get {w : World} {ao : Option Addr} {n : Nat} {F T : Nat → Int} (h : RgAt w ao n F T) (hn : 0 < n) : ∃ b off, ao = some ⟨b, off, none⟩ ∧ b < w.heap.size ∧ ∀ i, i < n → w.cell? ⟨b, off + i * 2, none⟩ = some (.int .i64 (F i)) ∧ w.cell? ⟨b, off + i * 2 + 1, none⟩ = some (.int .i64 (T i)) := by
  obtain ⟨b, off, e, hb, hc⟩ := h.some hn
  refine ⟨b, off, e, hb, fun i hi => ⟨?_, hc i hi 1 (by omega)⟩⟩
  have := hc i hi 0 (by omega)
  rw [Nat.add_zero] at this
  exact this
theorem all_succ {p : Nat → Bool} {k n : Nat} (hk : k < n) (h : (List.range k).all p = true) : (p k = true → (List.range (k + 1)).all p = true) ∧ (p k = false → (List.range n).all p = false) := by
  refine ⟨fun e => ?_, fun e => ?_⟩
  · rw [List.range_succ, List.all_append, h]; simp [e]
  · rw [List.all_eq_false]; exact ⟨k, by simpa using hk, by simp [e]⟩
/-- What a policy holds. -/
structure PolAt (w : World) (ra : Option Addr) (rn rc : Nat) (sa : Option Addr) (sn sc : Nat) (F T F' T' : Nat → Int) : Prop where
  r : RgAt w ra rn F T
  s : RgAt w sa sn F' T'
  rl : rn ≤ 65536
  sl : sn ≤ 65536
theorem PolAt.below {w w' : World} {ra : Option Addr} {rn rc : Nat} {sa : Option Addr} {sn sc : Nat} {F T F' T' : Nat → Int} (h : PolAt w ra rn rc sa sn sc F T F' T') (hb : Below w.heap.size w w') : PolAt w' ra rn rc sa sn sc F T F' T' := ⟨h.r.below hb, h.s.below hb, h.rl, h.sl⟩
def inG (F T : Nat → Int) (n : Nat) (at_ : Int) : Bool := (List.range n).any fun i => decide (F i ≤ at_ ∧ at_ ≤ T i)
theorem in1_any (F T at_ : Int) (g : Nat) (w : World) (hg : g < w.heap.size) (hc : w.cell? ⟨g, 0, none⟩ = some (.int .i64 at_)) : Calls Try.prog 25 #[.agg #[.int .i64 F, .int .i64 T], .pointer (some ⟨g, 0, none⟩)] w fun e w' => e = .returned (.bool (decide (F ≤ at_ ∧ at_ ≤ T))) ∧ Below w.heap.size w w' := by
  have n1 : w.heap.size ≠ g := by omega
  go_enter Try.func25, Try.ntmps25
  go_wp2
  all_goals
    go_ret
    exact ⟨ret_bool (by first | (rw [Bool.eq_iff_iff]; simp; done) | (rw [Bool.eq_iff_iff]; simp; omega)), (Below.refl _ _).alloc (Nat.le_refl _) _⟩
theorem idxR_zero (ao : Option Addr) (c : Nat) (g : Nat) (w : World) : Calls Try.prog 26 #[.slice ao 0 c, .func (.func 25) #[] #[.pointer (some ⟨g, 0, none⟩)]] w fun e w' => (∃ z : Int, e = .returned (.int .i64 z) ∧ decide (0 ≤ z) = false) ∧ Below w.heap.size w w' := by
  go_enter Try.func26, Try.ntmps26
  go_wp2
  refine wp_loop_rounds 1 ?_
  rw [rounds_succ]
  go_wp2
  go_ret
  exact ⟨⟨_, rfl, rfl⟩, Below.refl _ _⟩
set_option maxHeartbeats 800000 in
theorem idxR_some (b off n c g : Nat) (F T : Nat → Int) (at_ : Int) (w : World) (hl : n ≤ 1000000) (hb : b < w.heap.size) (hg : g < w.heap.size) (hc : w.cell? ⟨g, 0, none⟩ = some (.int .i64 at_)) (h : ∀ i, i < n → w.cell? ⟨b, off + i * 2, none⟩ = some (.int .i64 (F i)) ∧ w.cell? ⟨b, off + i * 2 + 1, none⟩ = some (.int .i64 (T i))) :
    Calls Try.prog 26 #[.slice (some ⟨b, off, none⟩) n c, .func (.func 25) #[] #[.pointer (some ⟨g, 0, none⟩)]] w fun e w' => (∃ z : Int, e = .returned (.int .i64 z) ∧ decide (0 ≤ z) = inG F T n at_) ∧ Below w.heap.size w w' := by
  have H := hidI h; clear h
  have HC := hidI hc; clear hc
  go_enter Try.func26, Try.ntmps26
  go_wp2_with fail
  go_loopw [8] (fun i wr => ∃ k : Nat, k ≤ n ∧ i = .int .i64 k ∧ inG F T k at_ = false ∧ Below w.heap.size w wr) (fun i _ => n - (intOf i).toNat)
  case atStart => exact ⟨0, Nat.zero_le _, rfl, rfl, Below.refl _ _⟩
  case round =>
    obtain ⟨k, hk, rfl, ht0, hbl⟩ := hrel
    have ht := hidI ht0; clear ht0
    by_cases hlt : k < n
    · have c0 := (hbl.cell (p := ⟨b, off + k * 2, none⟩) (by exact hb)).trans (H.out k hlt).1
      have c1 := (hbl.cell (p := ⟨b, off + k * 2 + 1, none⟩) (by exact hb)).trans (H.out k hlt).2
      have ca := (hbl.cell (p := ⟨g, 0, none⟩) (by exact hg)).trans HC.out
      cases hd : decide (F k ≤ at_ ∧ at_ ≤ T k)
      · have HD := hidI hd; clear hd
        go_wp2_with fail
        refine (in1_any (F k) (T k) at_ g _ (Nat.lt_of_lt_of_le hg hbl.size) ca).mono ?_
        rw [HD.out]
        rintro e wa ⟨rfl, ba⟩
        go_wp2_with fail
        exact ⟨⟨k + 1, by omega, by simp, (any_succ (S := fun i => decide (F i ≤ at_ ∧ at_ ≤ T i)) hlt ht.out).2 HD.out, hbl.trans (ba.mono hbl.size)⟩, by simp [intOf]; omega⟩
      · have HD := hidI hd; clear hd
        go_wp2_with fail
        refine (in1_any (F k) (T k) at_ g _ (Nat.lt_of_lt_of_le hg hbl.size) ca).mono ?_
        rw [HD.out]
        rintro e wa ⟨rfl, ba⟩
        go_wp2_with fail
        go_ret
        exact ⟨⟨_, rfl, by rw [inG, (any_succ (S := fun i => decide (F i ≤ at_ ∧ at_ ≤ T i)) hlt ht.out).1 HD.out]; simp⟩, hbl.trans (ba.mono hbl.size)⟩
    · obtain rfl : k = n := by omega
      go_wp2
      go_ret
      exact ⟨⟨_, rfl, by rw [ht.out]; rfl⟩, hbl⟩
theorem idxR_any (ao : Option Addr) (n c g : Nat) (F T : Nat → Int) (at_ : Int) (w : World) (hl : n ≤ 1000000) (h : RgAt w ao n F T) (hg : g < w.heap.size) (hc : w.cell? ⟨g, 0, none⟩ = some (.int .i64 at_)) :
    Calls Try.prog 26 #[.slice ao n c, .func (.func 25) #[] #[.pointer (some ⟨g, 0, none⟩)]] w fun e w' => (∃ z : Int, e = .returned (.int .i64 z) ∧ decide (0 ≤ z) = inG F T n at_) ∧ Below w.heap.size w w' := by
  by_cases hn : 0 < n
  · obtain ⟨b, off, rfl, hb, hc'⟩ := h.get hn
    exact idxR_some b off n c g F T at_ w hl hb hg hc hc'
  · obtain rfl : n = 0 := by omega
    exact idxR_zero ao c g w
theorem contR_any (ao : Option Addr) (n c g : Nat) (F T : Nat → Int) (at_ : Int) (w : World) (hl : n ≤ 1000000) (h : RgAt w ao n F T) (hg : g < w.heap.size) (hc : w.cell? ⟨g, 0, none⟩ = some (.int .i64 at_)) :
    Calls Try.prog 24 #[.slice ao n c, .func (.func 25) #[] #[.pointer (some ⟨g, 0, none⟩)]] w fun e w' => e = .returned (.bool (inG F T n at_)) ∧ Below w.heap.size w w' := by
  go_enter Try.func24, Try.ntmps24
  go_wp2_with fail
  refine (idxR_any ao n c g F T at_ _ hl h hg hc).mono ?_
  rintro e w' ⟨⟨z, rfl, hz⟩, hb⟩
  go_wp2
  go_ret
  exact ⟨rfl, hb⟩
theorem in_any (ao : Option Addr) (n c : Nat) (F T : Nat → Int) (at_ : Int) (w : World) (hl : n ≤ 1000000) (h : RgAt w ao n F T) : Calls Try.prog 22 #[.slice ao n c, .int .i64 at_] w fun e w' => e = .returned (.bool (inG F T n at_)) ∧ Below w.heap.size w w' := by
  have b0 : Below w.heap.size w (w.alloc (.cells #[.int .i64 at_] 3)) := (Below.refl _ _).alloc (Nat.le_refl _) _
  have hc : (w.alloc (.cells #[.int .i64 at_] 3)).cell? ⟨w.heap.size, 0, none⟩ = some (.int .i64 at_) := blk_cell (blk_new _ _) 0
  go_enter Try.func22, Try.ntmps22
  go_wp2_with fail
  refine (contR_any ao n c w.heap.size F T at_ _ hl (h.below b0) (by simp) hc).mono ?_
  rintro e w' ⟨rfl, hb⟩
  go_wp2
  go_ret
  exact ⟨rfl, b0.trans (hb.mono (by simp))⟩
/-- Is something secret? -/
def secB (p0 p1 : Bool) (rn sn : Nat) (F T F' T' : Nat → Int) (kind at_ : Int) : Bool :=
  if kind = 0 then (decide (at_ = 0) && p0 || decide (at_ = 1) && p1) else if kind = 1 then inG F T rn at_ else if kind = 2 then inG F' T' sn at_ else false
set_option maxHeartbeats 1600000 in
theorem sec_any (p0 p1 : Bool) (ra : Option Addr) (rn rc : Nat) (sa : Option Addr) (sn sc : Nat) (F T F' T' : Nat → Int) (kind at_ : Int) (w : World) (h : PolAt w ra rn rc sa sn sc F T F' T') :
    Calls Try.prog 20 #[poV p0 p1 ra rn rc sa sn sc, .int .i64 kind, .int .i64 at_] w fun e w' => e = .returned (.bool (secB p0 p1 rn sn F T F' T' kind at_)) ∧ Below w.heap.size w w' := by
  have b0 : Below w.heap.size w (w.alloc (.cells #[.bool p0, .bool p1, .slice ra rn rc, .slice sa sn sc] 44)) := (Below.refl _ _).alloc (Nat.le_refl _) _
  have hrl := h.rl
  have hsl := h.sl
  by_cases k0 : kind = 0
  · subst k0
    by_cases a0 : at_ = 0
    · subst a0
      go_enter Try.func20, Try.ntmps20
      go_wp2
      go_ret
      exact ⟨ret_bool (by simp [secB]), b0⟩
    · by_cases a1 : at_ = 1
      · subst a1
        go_enter Try.func20, Try.ntmps20
        go_wp2
        go_ret
        exact ⟨ret_bool (by simp [secB]), b0⟩
      · obtain ⟨z, hz⟩ : ∃ z, z = secB p0 p1 rn sn F T F' T' 0 at_ := ⟨_, rfl⟩
        rw [← hz]
        have e : z = false := by rw [hz]; simp [secB, a0, a1]
        clear hz
        go_enter Try.func20, Try.ntmps20
        go_wp2
        all_goals first
          | (exfalso; omega)
          | (go_ret; exact ⟨ret_bool (by first | rfl | exact e.symm), b0⟩)
  · by_cases k1 : kind = 1
    · subst k1
      go_enter Try.func20, Try.ntmps20
      go_wp2_with fail
      refine (in_any ra rn rc F T at_ _ (by omega) (h.r.below b0)).mono ?_
      rintro e w' ⟨rfl, hb⟩
      go_wp2
      go_ret
      exact ⟨rfl, b0.trans (hb.mono (by simp))⟩
    · by_cases k2 : kind = 2
      · subst k2
        go_enter Try.func20, Try.ntmps20
        go_wp2_with fail
        refine (in_any sa sn sc F' T' at_ _ (by omega) (h.s.below b0)).mono ?_
        rintro e w' ⟨rfl, hb⟩
        go_wp2
        go_ret
        exact ⟨rfl, b0.trans (hb.mono (by simp))⟩
      · have e : secB p0 p1 rn sn F T F' T' kind at_ = false := by simp [secB, k0, k1, k2]
        rw [e]
        clear e
        have k0' : (kind == 0) = false := by simpa using k0
        have k1' : (kind == 1) = false := by simpa using k1
        have k2' : (kind == 2) = false := by simpa using k2
        go_enter Try.func20, Try.ntmps20
        go_wp2_with fail
        go_ret
        exact ⟨rfl, b0⟩
theorem rin_zero (ao : Option Addr) (c : Nat) (F T : Nat → Int) (at_ : Int) (w : World) : Calls Try.prog 23 #[.slice ao 0 c, .int .i64 at_] w fun e w' => e = .returned (.bool (inG F T 0 at_)) ∧ w = w' := by
  go_enter Try.func23, Try.ntmps23
  go_wp2
  refine wp_loop_rounds 1 ?_
  rw [rounds_succ]
  go_wp2
  go_ret
  exact ⟨rfl, rfl⟩
theorem inG_succ (F T : Nat → Int) (k : Nat) (at_ : Int) : inG F T (k + 1) at_ = (inG F T k at_ || decide (F k ≤ at_ ∧ at_ ≤ T k)) := by
  unfold inG; rw [List.range_succ, List.any_append]; simp
theorem rin_some (b off n c : Nat) (F T : Nat → Int) (at_ : Int) (w : World) (hl : n ≤ 1000000) (h : ∀ i, i < n → w.cell? ⟨b, off + i * 2, none⟩ = some (.int .i64 (F i)) ∧ w.cell? ⟨b, off + i * 2 + 1, none⟩ = some (.int .i64 (T i))) :
    Calls Try.prog 23 #[.slice (some ⟨b, off, none⟩) n c, .int .i64 at_] w fun e w' => e = .returned (.bool (inG F T n at_)) ∧ w = w' := by
  have H := hidI h; clear h
  go_enter Try.func23, Try.ntmps23
  go_wp2_with fail
  go_loop [5, 6] (fun m i => ∃ k j : Nat, k ≤ n ∧ i = .int .i64 k ∧ m = .int .i64 j ∧ j ≤ k ∧ decide (0 < j) = inG F T k at_) (fun _ i => n - (intOf i).toNat)
  case atStart => exact ⟨0, 0, Nat.zero_le _, rfl, rfl, Nat.le_refl _, rfl⟩
  case round =>
    obtain ⟨k, j, hk, rfl, rfl, hj, ht0⟩ := hrel
    have ht := hidI ht0; clear ht0
    by_cases hlt : k < n
    · have c0 := (H.out k hlt).1
      have c1 := (H.out k hlt).2
      go_wp2
      all_goals
        first
          | exact ⟨⟨k + 1, j + 1, by omega, by simp, by simp, by omega, by rw [inG_succ, ← ht.out, Bool.eq_iff_iff]; simp; omega⟩, by simp [intOf]; omega⟩
          | exact ⟨⟨k + 1, j, by omega, by simp, by simp, by omega, by rw [inG_succ, ← ht.out, Bool.eq_iff_iff]; simp; omega⟩, by simp [intOf]; omega⟩
    · obtain rfl : k = n := by omega
      go_wp2
      go_ret
      exact ⟨ret_bool ht.out, rfl⟩
theorem rin_any (ao : Option Addr) (n c : Nat) (F T : Nat → Int) (at_ : Int) (w : World) (hl : n ≤ 1000000) (h : RgAt w ao n F T) : Calls Try.prog 23 #[.slice ao n c, .int .i64 at_] w fun e w' => e = .returned (.bool (inG F T n at_)) ∧ w = w' := by
  by_cases hn : 0 < n
  · obtain ⟨b, off, rfl, hb, hc⟩ := h.get hn
    exact rin_some b off n c F T at_ w hl hc
  · obtain rfl : n = 0 := by omega
    exact rin_zero ao c F T at_ w
set_option maxHeartbeats 1600000 in
theorem rsec_any (p0 p1 : Bool) (ra : Option Addr) (rn rc : Nat) (sa : Option Addr) (sn sc : Nat) (F T F' T' : Nat → Int) (kind at_ : Int) (w : World) (h : PolAt w ra rn rc sa sn sc F T F' T') :
    Calls Try.prog 21 #[poV p0 p1 ra rn rc sa sn sc, .int .i64 kind, .int .i64 at_] w fun e w' => e = .returned (.bool (secB p0 p1 rn sn F T F' T' kind at_)) ∧ Below w.heap.size w w' := by
  have b0 : Below w.heap.size w (w.alloc (.cells #[.bool p0, .bool p1, .slice ra rn rc, .slice sa sn sc] 44)) := (Below.refl _ _).alloc (Nat.le_refl _) _
  have hrl := h.rl
  have hsl := h.sl
  by_cases k0 : kind = 0
  · subst k0
    by_cases a0 : at_ = 0
    · subst a0
      obtain ⟨z, hz⟩ : ∃ z, z = secB p0 p1 rn sn F T F' T' 0 0 := ⟨_, rfl⟩
      rw [← hz]
      have HZ : Hid (z = p0) := by show _ = _; rw [hz]; simp [secB]
      clear hz
      go_enter Try.func21, Try.ntmps21
      go_wp2
      all_goals
        go_ret
        exact ⟨ret_bool (by rw [HZ.out]; try simp [*]), (Below.refl _ _).alloc (Nat.le_refl _) _⟩
    · by_cases a1 : at_ = 1
      · subst a1
        obtain ⟨z, hz⟩ : ∃ z, z = secB p0 p1 rn sn F T F' T' 0 1 := ⟨_, rfl⟩
        rw [← hz]
        have HZ : Hid (z = p1) := by show _ = _; rw [hz]; simp [secB]
        clear hz
        go_enter Try.func21, Try.ntmps21
        go_wp2
        all_goals
          go_ret
          exact ⟨ret_bool (by rw [HZ.out]; try simp [*]), (Below.refl _ _).alloc (Nat.le_refl _) _⟩
      · obtain ⟨z, hz⟩ : ∃ z, z = secB p0 p1 rn sn F T F' T' 0 at_ := ⟨_, rfl⟩
        rw [← hz]
        have HZ : Hid (z = false) := by show _ = _; rw [hz]; simp [secB, a0, a1]
        clear hz
        have k0' : (at_ == 0) = false := by simpa using a0
        have k1' : (at_ == 1) = false := by simpa using a1
        go_enter Try.func21, Try.ntmps21
        go_wp2
        all_goals
          go_ret
          exact ⟨ret_bool (by rw [HZ.out]), (Below.refl _ _).alloc (Nat.le_refl _) _⟩
  · by_cases k1 : kind = 1
    · subst k1
      go_enter Try.func21, Try.ntmps21
      go_wp2_with fail
      refine (rin_any ra rn rc F T at_ _ (by omega) (h.r.below b0)).mono ?_
      rintro e w' ⟨rfl, rfl⟩
      go_wp2
      go_ret
      exact ⟨rfl, b0⟩
    · by_cases k2 : kind = 2
      · subst k2
        go_enter Try.func21, Try.ntmps21
        go_wp2_with fail
        refine (rin_any sa sn sc F' T' at_ _ (by omega) (h.s.below b0)).mono ?_
        rintro e w' ⟨rfl, rfl⟩
        go_wp2
        go_ret
        exact ⟨rfl, b0⟩
      · have e : secB p0 p1 rn sn F T F' T' kind at_ = false := by simp [secB, k0, k1, k2]
        rw [e]
        clear e
        have k0' : (kind == 0) = false := by simpa using k0
        have k1' : (kind == 1) = false := by simpa using k1
        have k2' : (kind == 2) = false := by simpa using k2
        go_enter Try.func21, Try.ntmps21
        go_wp2_with fail
        go_ret
        exact ⟨rfl, b0⟩
end Go.Proofs.Ythehpoipeapiaaa
