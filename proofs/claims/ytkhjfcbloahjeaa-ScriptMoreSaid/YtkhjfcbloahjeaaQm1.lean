import Derived.Test.YtkhjfcbloahjeaaProg
import Derived.WalkKit
import Derived.Outline
import Derived.LoopTactic
import Derived.KernelRfl
import Derived.Deep.QuietTactic
import Derived.BigQuiet
import Derived.Test.YtkhjfcbloahjeaaSx25
import Derived.RegionTactic
import Derived.BigRegion
import Derived.Laws.AppendOwn
import Derived.Laws.AppendOwnNone
import Derived.Deep.RegionHeld3
import Derived.Deep.RegionWith
import Derived.Deep.DeepCutAuto
namespace Go.Proofs.Ytkhjfcbloahjeaa
open Go.RowKit Go.Sx
theorem tA {α : Type} (l : List α) (i : Nat) (a : α) : l.toArray.setIfInBounds i a = (l.set i a).toArray := List.setIfInBounds_toArray _ _ _
theorem tB {α : Type} (x : α) (l : List α) (a : α) : (x :: l).set 0 a = a :: l := rfl
theorem tC {α : Type} (x : α) (l : List α) (n : Nat) (a : α) : (x :: l).set (n + 1) a = x :: l.set n a := rfl
theorem tk {P : Program} {md : Region.Mode} {ops : Array Oper} {Q : Exit → Act → World → Prop} {S : World → Prop} (i : Nat) {oi : Oper} {v : Value} {fuel : Nat} {listed : Array Bool} {a : Act} {w : World} (hi : ops[i]? = some oi) (hw : Region.wanted oi (yielded ops a.tmps) = true) (hy : ∀ w, S w → (execOp a.eval oi).run P w = .ok (.value v) w) (hS : S w)
    (h : wpAnyH P md ops Q S fuel (listed.setIfInBounds i true) (a.put oi.dst v) w) (hs : Region.noSelect ops = true := by kernel_rfl) (hf : Region.free md ops listed i = true := by kernel_rfl) (hr : (Region.ready md ops listed).contains i = true := by kernel_rfl) (hQ : ∀ c a w, Q (.panic c) (a.put oi.dst v) w → Q (.panic c) a w := by exact fun _ _ _ h => h) : wpAnyH P md ops Q S (fuel + 1) listed a w :=
  wpAnyH_take hi hs hf hr hQ (Or.inl ⟨hw, hy⟩) hS h
theorem tn {P : Program} {md : Region.Mode} {ops : Array Oper} {Q : Exit → Act → World → Prop} {S : World → Prop} (i : Nat) {oi : Oper} {fuel : Nat} {listed : Array Bool} {a : Act} {w : World} (hi : ops[i]? = some oi) (hw : Region.wanted oi (yielded ops a.tmps) = false) (hS : S w)
    (h : wpAnyH P md ops Q S fuel (listed.setIfInBounds i true) (a.put oi.dst undef) w) (hs : Region.noSelect ops = true := by kernel_rfl) (hf : Region.free md ops listed i = true := by kernel_rfl) (hr : (Region.ready md ops listed).contains i = true := by kernel_rfl) (hQ : ∀ c a w, Q (.panic c) (a.put oi.dst undef) w → Q (.panic c) a w := by exact fun _ _ _ h => h) : wpAnyH P md ops Q S (fuel + 1) listed a w :=
  wpAnyH_take hi hs hf hr hQ (Or.inr ⟨hw, rfl⟩) hS h
theorem mixed : Try.prog.follows .mixedOrders = true := by kernel_rfl
theorem awake_shown : (tree Try.prog 12 (fun _ => none) 300 12 [] bare 0 ⟨[], []⟩).prove 300 100 ⟨[], []⟩ = true := by kernel_rfl
theorem awake_any (w : World) : Calls Try.prog 12 #[] w fun e w' => e = .returned (.bool true) ∧ Below w.heap.size w w' :=
  (flat_true (ts := []) (ss := []) (ks := []) (r := .any) (base := 0) mixed rfl awake_shown (w := w) rfl (fun j t v h => by simp at h)).mono fun _ _ ⟨⟨_, he, hv⟩, hb⟩ => ⟨by rw [he, hv], hb⟩
end Go.Proofs.Ytkhjfcbloahjeaa
namespace Go.Proofs.Ytkhjfcbloahjeaa
open Go.RowKit Go.Sx
theorem ret_bool {a b : Bool} (h : a = b) : Ending.returned (.bool a) = Ending.returned (.bool b) := by rw [h]
theorem ret_int {k : IntKind} {a b : Int} (h : a = b) : Ending.returned (.int k a) = Ending.returned (.int k b) := by rw [h]
theorem hidI {p : Prop} (h : p) : Hid p := h
theorem below_drewN {B : Nat} {a w : World} (h : Below B a w) (n : Nat) : Below B a (w.drewN n) := h.trans ⟨rfl, rfl, rfl, Nat.le_refl _, fun _ _ => rfl⟩
theorem blk_cell {w : World} {g : Nat} {cs : Array Value} {t : TypeId} {fr : Nat × Nat} (h : w.heap[g]? = some (.cells cs t fr)) (j : Nat) : w.cell? ⟨g, j, none⟩ = cs[j]? := by simp [World.cell?, h]
theorem blk_free {w : World} {g : Nat} {cs : Array Value} {t : TypeId} (h : w.heap[g]? = some (.cells cs t (0, 0))) (j : Nat) : w.frozen? ⟨g, j, none⟩ = false := by simp [World.frozen?, h]
theorem blk_lt {w : World} {g : Nat} {o : Obj} (h : w.heap[g]? = some o) : g < w.heap.size := (Array.getElem?_eq_some_iff.1 h).1
theorem blk_alloc {w : World} {g : Nat} {o : Obj} (h : w.heap[g]? = some o) (x : Obj) : (w.alloc x).heap[g]? = some o := by rw [Below.heap_alloc _ _ _ (blk_lt h)]; exact h
theorem blk_new (w : World) (x : Obj) : (w.alloc x).heap[w.heap.size]? = some x := by show (w.heap.push _)[w.heap.size]? = _; simp
theorem blk_new' {w : World} {g : Nat} (x : Obj) (h : w.heap.size = g) : (w.alloc x).heap[g]? = some x := by subst h; exact blk_new w x
theorem blk_set {w : World} {g : Nat} {cs : Array Value} {t : TypeId} {fr : Nat × Nat} (h : w.heap[g]? = some (.cells cs t fr)) (j : Nat) (v : Value) : (w.setCell ⟨g, j, none⟩ v).heap[g]? = some (.cells (cs.setIfInBounds j v) t fr) := by
  simp only [World.setCell]
  rw [Array.getElem?_modify, if_pos rfl, h]
  rfl
theorem blk_other {w : World} {g : Nat} {a : Addr} (h : a.block ≠ g) (v : Value) : (w.setCell a v).heap[g]? = w.heap[g]? := by
  simp only [World.setCell]
  rw [Array.getElem?_modify, if_neg h]
/-- A script's value. -/
abbrev scV (p : ByteArray) (ao : Option Addr) (n c : Nat) (sv rm : ByteArray) : Value := .agg #[.string p, .slice ao n c, .string sv, .string rm]
def fr (p : ByteArray) : Nat := p.size / 2
theorem frames_any (p : ByteArray) (ao : Option Addr) (n c : Nat) (sv rm : ByteArray) (w : World) (hp : p.size ≤ 1000000) : Calls Try.prog 18 #[scV p ao n c sv rm] w fun e w' => e = .returned (.int .i64 (fr p)) ∧ Below w.heap.size w w' := by
  go_enter Try.func18, Try.ntmps18
  go_wp2
  go_ret
  exact ⟨ret_int (by unfold fr; omega), (Below.refl _ _).alloc (Nat.le_refl _) _⟩
theorem ext_le (p : ByteArray) (k : Nat) : (p.extract 0 k).size ≤ k := by rw [ByteArray.size_extract]; omega
set_option maxHeartbeats 800000 in
theorem few_any (p : ByteArray) (ao : Option Addr) (n c : Nat) (sv rm : ByteArray) (w : World) (hc : n ≤ c) : Calls Try.prog 9 #[scV p ao n c sv rm] w fun e w' => (∃ p' n' sv' rm', e = .returned (scV p' ao n' c sv' rm') ∧ p'.size ≤ 1201 ∧ n' ≤ 20 ∧ n' ≤ n ∧ sv'.size ≤ 8193 ∧ rm'.size ≤ 2049) ∧ Below w.heap.size w w' := by
  have e1 := ext_le p 1201
  have e2 := ext_le sv 8193
  have e3 := ext_le rm 2049
  go_enter Try.func9, Try.ntmps9
  go_wp2
  all_goals exact bodyPost_ret (v := scV _ _ _ _ _ _) (by simp [results, Try.results9, go_sem]; exact ⟨rfl, rfl, rfl, rfl⟩) rfl ⟨⟨_, _, _, _, rfl, by omega, by omega, by omega, by omega, by omega⟩, ((Below.refl _ _).alloc (Nat.le_refl _) _).alloc (by simp) _⟩
end Go.Proofs.Ytkhjfcbloahjeaa
namespace Go.Proofs.Ytkhjfcbloahjeaa
open Go.RowKit Go.Sx
/-- Octet k of a text. -/
def bt (p : ByteArray) (k : Nat) : Int := ((p.data.getD k 0).toNat : Int)
theorem bt_eq (p : ByteArray) (k : Nat) (h : k < p.size) : ((p[k]'h).toNat : Int) = bt p k := by
  have hk : k < p.data.size := h
  have e : p[k]'h = p.data[k]'hk := rfl
  rw [e, bt, Array.getD_eq_getD_getElem?, Array.getElem?_eq_getElem hk, Option.getD_some]
def inR (R : Nat → Int) (n : Nat) (x : Int) : Bool := (List.range n).any fun i => decide (R i = x)
theorem any_succ {n k : Nat} {S : Nat → Bool} (hk : k < n) (h : (List.range k).any S = false) : (S k = true → (List.range n).any S = true) ∧ (S k = false → (List.range (k + 1)).any S = false) := by
  refine ⟨fun hs => ?_, fun hs => ?_⟩
  · rw [List.any_eq_true]; exact ⟨k, by simpa using hk, hs⟩
  · rw [List.range_succ, List.any_append, h]; simp [hs]
theorem index_zero (ao : Option Addr) (c : Nat) (x : Int) (w : World) : Calls Try.prog 44 #[.slice ao 0 c, .int .i64 x] w fun e w' => (∃ z : Int, e = .returned (.int .i64 z) ∧ decide (0 ≤ z) = inR (fun _ => 0) 0 x) ∧ w = w' := by
  go_enter Try.func44, Try.ntmps44
  go_wp2
  refine wp_loop_rounds 1 ?_
  rw [rounds_succ]
  go_wp2
  go_ret
  exact ⟨⟨_, rfl, rfl⟩, rfl⟩
theorem index_some (b off n c : Nat) (R : Nat → Int) (x : Int) (w : World) (hl : n ≤ 1000000) (h : ∀ i, i < n → w.cell? ⟨b, off + i, none⟩ = some (.int .i64 (R i))) : Calls Try.prog 44 #[.slice (some ⟨b, off, none⟩) n c, .int .i64 x] w fun e w' => (∃ z : Int, e = .returned (.int .i64 z) ∧ decide (0 ≤ z) = inR R n x) ∧ w = w' := by
  have H := hidI h; clear h
  go_enter Try.func44, Try.ntmps44
  go_wp2
  go_loop [8] (fun i => ∃ k : Nat, k ≤ n ∧ i = .int .i64 k ∧ inR R k x = false) (fun i => n - (intOf i).toNat)
  case atStart => exact ⟨0, Nat.zero_le _, rfl, rfl⟩
  case round =>
    obtain ⟨k, hk, rfl, ht0⟩ := hrel
    have ht := hidI ht0; clear ht0
    by_cases hlt : k < n
    · have hc := H.out k hlt
      go_wp2
      · go_ret
        have hs : (x == R k) = true := by assumption
        exact ⟨⟨_, rfl, by rw [inR, (any_succ hlt ht.out).1 (by simp at hs; simp [hs])]; simp⟩, rfl⟩
      · go_round
        have hs : (x == R k) = false := by assumption
        case rel => exact ⟨k + 1, by omega, by go_num, (any_succ hlt ht.out).2 (by simp at hs; simp; exact fun e => hs e.symm)⟩
        case measure => simp [intOf]; omega
    · obtain rfl : k = n := by omega
      go_wp2
      go_ret
      exact ⟨⟨_, rfl, by rw [ht.out]; rfl⟩, rfl⟩
/-- Numbers in memory. -/
abbrev IntsAt (w : World) (ao : Option Addr) (n : Nat) (R : Nat → Int) : Prop := RowAt w ao n 1 (fun i _ => .int .i64 (R i))
theorem index_any (ao : Option Addr) (n c : Nat) (R : Nat → Int) (x : Int) (w : World) (hl : n ≤ 1000000) (h : IntsAt w ao n R) : Calls Try.prog 44 #[.slice ao n c, .int .i64 x] w fun e w' => (∃ z : Int, e = .returned (.int .i64 z) ∧ decide (0 ≤ z) = inR R n x) ∧ w = w' := by
  by_cases hn : 0 < n
  · obtain ⟨b, off, rfl, _, hc⟩ := h.some hn
    exact index_some b off n c R x w hl (fun i hi => by have := hc i hi 0 (by omega); rw [Nat.mul_one, Nat.add_zero] at this; exact this)
  · obtain rfl : n = 0 := by omega
    exact index_zero ao c x w
theorem contains_any (ao : Option Addr) (n c : Nat) (R : Nat → Int) (x : Int) (w : World) (hl : n ≤ 1000000) (h : IntsAt w ao n R) : Calls Try.prog 35 #[.slice ao n c, .int .i64 x] w fun e w' => e = .returned (.bool (inR R n x)) ∧ w = w' := by
  go_enter Try.func35, Try.ntmps35
  go_wp2_with (go_at_call 44; refine (index_any _ _ _ R _ _ hl h).mono ?_; rintro e w' ⟨⟨z, rfl, hz⟩, rfl⟩)
  go_ret
  exact ⟨rfl, rfl⟩
theorem reset_any (p : ByteArray) (ao : Option Addr) (n c : Nat) (sv rm : ByteArray) (R : Nat → Int) (x : Int) (w : World) (hl : n ≤ 1000000) (h : IntsAt w ao n R) : Calls Try.prog 20 #[scV p ao n c sv rm, .int .i64 x] w fun e w' => e = .returned (.bool (inR R n x)) ∧ Below w.heap.size w w' := by
  have hb : Below w.heap.size w (w.alloc (.cells #[.string p, .slice ao n c, .string sv, .string rm] 28)) := (Below.refl _ _).alloc (Nat.le_refl _) _
  go_enter Try.func20, Try.ntmps20
  go_wp2_with (go_at_call 35; refine (contains_any _ _ _ R _ _ hl (h.below hb)).mono ?_; rintro e w' ⟨rfl, rfl⟩)
  go_ret
  exact ⟨rfl, hb⟩
theorem pad_no (p : ByteArray) (ao : Option Addr) (n c : Nat) (sv rm : ByteArray) (f o : Int) (w : World) (hp : p.size ≤ 1000000) (h : o < 0 ∨ 2 ≤ o ∨ f < 0 ∨ (fr p : Int) ≤ f) : Calls Try.prog 19 #[scV p ao n c sv rm, .int .i64 f, .int .i64 o] w fun e w' => e = .returned (.int .u8 0) ∧ Below w.heap.size w w' := by
  go_enter Try.func19, Try.ntmps19
  go_wp2_with (go_at_call 18; refine (frames_any _ _ _ _ _ _ _ hp).mono ?_; rintro e w' ⟨rfl, hb⟩)
  all_goals first
    | (exfalso; omega)
    | (go_ret; exact ⟨rfl, (Below.refl _ _).alloc (Nat.le_refl _) _⟩)
    | (go_ret; exact ⟨rfl, ((Below.refl _ _).alloc (Nat.le_refl _) _).trans (hb.mono (by simp))⟩)
theorem pad_yes (p : ByteArray) (ao : Option Addr) (n c : Nat) (sv rm : ByteArray) (f o : Nat) (w : World) (hp : p.size ≤ 1000000) (hf : f < fr p) (ho : o < 2) : Calls Try.prog 19 #[scV p ao n c sv rm, .int .i64 f, .int .i64 o] w fun e w' => e = .returned (.int .u8 (bt p (2 * f + o))) ∧ Below w.heap.size w w' := by
  have hs : 2 * f + o < p.size := by unfold fr at hf; omega
  go_enter Try.func19, Try.ntmps19
  go_wp2_with (go_at_call 18; refine (frames_any _ _ _ _ _ _ _ hp).mono ?_; rintro e w' ⟨rfl, hb⟩; have c0 : w'.cell? ⟨w.heap.size, 0, none⟩ = some (.string p) := blk_cell ((hb.block _ (by simp)).trans (blk_new w _)) 0)
  go_ret
  exact ⟨ret_int (bt_eq p _ hs), ((Below.refl _ _).alloc (Nat.le_refl _) _).trans (hb.mono (by simp))⟩
end Go.Proofs.Ytkhjfcbloahjeaa
namespace Go.Proofs.Ytkhjfcbloahjeaa
open Go.RowKit Go.Sx
def prev (R : Nat → Int) (i : Nat) : Int := if i = 0 then -1 else R (i - 1)
/-- Numbers that rise from 0 on, below a bound. -/
def ckB (R : Nat → Int) (n : Nat) (m : Int) : Bool := (List.range n).all fun i => decide (prev R i < R i ∧ R i < m)
theorem ckB_succ {R : Nat → Int} {m : Int} {k n : Nat} (hk : k < n) (h : ckB R k m = true) : (prev R k < R k ∧ R k < m → ckB R (k + 1) m = true) ∧ (¬ (prev R k < R k ∧ R k < m) → ckB R n m = false) := by
  refine ⟨fun e => ?_, fun e => ?_⟩
  · unfold ckB at *; rw [List.range_succ, List.all_append, h]; simpa using e
  · unfold ckB; rw [List.all_eq_false]; exact ⟨k, by simpa using hk, by simpa using e⟩
def maySB (p : ByteArray) (n : Nat) (sv rm : ByteArray) (R : Nat → Int) : Bool := decide (p.size % 2 = 0 ∧ fr p ≤ 600 ∧ sv.size ≤ 8192 ∧ rm.size ≤ 2048) && ckB R n (fr p)
theorem at_cells {p sv rm : ByteArray} {ao : Option Addr} {n c : Nat} {w w' : World} (h : Below (w.heap.size + 1) (w.alloc (.cells #[.string p, .slice ao n c, .string sv, .string rm] 28)) w') : w'.heap[w.heap.size]? = some (.cells #[.string p, .slice ao n c, .string sv, .string rm] 28 (0, 0)) := (h.block _ (by omega)).trans (blk_new w _)
set_option maxHeartbeats 800000 in
theorem check_no (p : ByteArray) (ao : Option Addr) (n c : Nat) (sv rm : ByteArray) (w : World) (hp : p.size ≤ 1000000) (h : ¬ (p.size % 2 = 0 ∧ fr p ≤ 600 ∧ sv.size ≤ 8192 ∧ rm.size ≤ 2048)) :
    Calls Try.prog 17 #[scV p ao n c sv rm] w fun e w' => e = .returned (.int .i64 8) ∧ Below w.heap.size w w' := by
  go_enter Try.func17, Try.ntmps17
  go_wp2_with (go_at_call 18; refine (frames_any _ _ _ _ _ _ _ hp).mono ?_; rintro e w' ⟨rfl, hb⟩; have c0 : w'.cell? ⟨w.heap.size, 0, none⟩ = some (.string p) := blk_cell (at_cells (hb.mono (by simp))) 0; have c1 : w'.cell? ⟨w.heap.size, 1, none⟩ = some (.slice ao n c) := blk_cell (at_cells (hb.mono (by simp))) 1; have c2 : w'.cell? ⟨w.heap.size, 2, none⟩ = some (.string sv) := blk_cell (at_cells (hb.mono (by simp))) 2; have c3 : w'.cell? ⟨w.heap.size, 3, none⟩ = some (.string rm) := blk_cell (at_cells (hb.mono (by simp))) 3)
  all_goals first
    | (exfalso; omega)
    | (go_ret; exact ⟨rfl, ((Below.refl _ _).alloc (Nat.le_refl _) _).trans (hb.mono (by simp))⟩)
set_option maxHeartbeats 800000 in
theorem check_zero (p : ByteArray) (ao : Option Addr) (n c : Nat) (sv rm : ByteArray) (w : World) (h1 : p.size % 2 = 0) (h2 : fr p ≤ 600) (h3 : sv.size ≤ 8192) (h4 : rm.size ≤ 2048) (hn : n = 0) :
    Calls Try.prog 17 #[scV p ao n c sv rm] w fun e w' => e = .returned (.int .i64 0) ∧ Below w.heap.size w w' := by
  have hp : p.size ≤ 1000000 := by unfold fr at h2; omega
  have h1' : (p.size : Int) % 2 = 0 := by omega
  subst hn
  go_enter Try.func17, Try.ntmps17
  go_wp2_with (go_at_call 18; refine (frames_any _ _ _ _ _ _ _ hp).mono ?_; rintro e w' ⟨rfl, hb⟩; have c0 : w'.cell? ⟨w.heap.size, 0, none⟩ = some (.string p) := blk_cell (at_cells (hb.mono (by simp))) 0; have c1 : w'.cell? ⟨w.heap.size, 1, none⟩ = some (.slice ao 0 c) := blk_cell (at_cells (hb.mono (by simp))) 1; have c2 : w'.cell? ⟨w.heap.size, 2, none⟩ = some (.string sv) := blk_cell (at_cells (hb.mono (by simp))) 2; have c3 : w'.cell? ⟨w.heap.size, 3, none⟩ = some (.string rm) := blk_cell (at_cells (hb.mono (by simp))) 3)
  all_goals first
    | (exfalso; omega)
    | skip
  refine wp_loop_rounds 1 ?_
  rw [rounds_succ]
  go_wp2
  go_ret
  exact ⟨rfl, ((Below.refl _ _).alloc (Nat.le_refl _) _).trans (hb.mono (by simp))⟩
set_option maxHeartbeats 1600000 in
theorem check_some (p : ByteArray) (b off n c : Nat) (sv rm : ByteArray) (R : Nat → Int) (w : World) (h1 : p.size % 2 = 0) (h2 : fr p ≤ 600) (h3 : sv.size ≤ 8192) (h4 : rm.size ≤ 2048) (hl : n ≤ 1000000) (hb0 : b < w.heap.size) (h : ∀ i, i < n → w.cell? ⟨b, off + i, none⟩ = some (.int .i64 (R i))) :
    Calls Try.prog 17 #[scV p (some ⟨b, off, none⟩) n c sv rm] w fun e w' => e = .returned (.int .i64 (if ckB R n (fr p) then 0 else 8)) ∧ Below w.heap.size w w' := by
  obtain ⟨z, hz⟩ : ∃ z : Int, z = (if ckB R n (fr p) then 0 else 8) := ⟨_, rfl⟩
  rw [← hz]
  have HZ := hidI hz; clear hz
  have hp : p.size ≤ 1000000 := by unfold fr at h2; omega
  have h1' : (p.size : Int) % 2 = 0 := by omega
  have H := hidI h; clear h
  go_enter Try.func17, Try.ntmps17
  go_wp2_with (go_at_call 18; refine (frames_any _ _ _ _ _ _ _ hp).mono ?_; rintro e w' ⟨rfl, hb⟩; have c0 : w'.cell? ⟨w.heap.size, 0, none⟩ = some (.string p) := blk_cell (at_cells (hb.mono (by simp))) 0; have c1 : w'.cell? ⟨w.heap.size, 1, none⟩ = some (.slice (some ⟨b, off, none⟩) n c) := blk_cell (at_cells (hb.mono (by simp))) 1; have c2 : w'.cell? ⟨w.heap.size, 2, none⟩ = some (.string sv) := blk_cell (at_cells (hb.mono (by simp))) 2; have c3 : w'.cell? ⟨w.heap.size, 3, none⟩ = some (.string rm) := blk_cell (at_cells (hb.mono (by simp))) 3)
  all_goals first
    | (exfalso; omega)
    | skip
  have B0 : Below w.heap.size w w' := ((Below.refl _ _).alloc (Nat.le_refl _) _).trans (hb.mono (by simp))
  have H' : Hid (∀ i, i < n → w'.cell? ⟨b, off + i, none⟩ = some (.int .i64 (R i))) := fun i hi => (B0.cell (p := ⟨b, off + i, none⟩) (by exact hb0)).trans (H.out i hi)
  clear hb H
  go_loop [33, 4] (fun i l => ∃ k : Nat, k ≤ n ∧ i = .int .i64 k ∧ l = .int .i64 (prev R k) ∧ ckB R k (fr p) = true) (fun i _ => n - (intOf i).toNat)
  case atStart => exact ⟨0, Nat.zero_le _, rfl, rfl, rfl⟩
  case round =>
    obtain ⟨k, hk, rfl, rfl, ht0⟩ := hrel
    have ht := hidI ht0; clear ht0
    by_cases hlt : k < n
    · have hc := H'.out k hlt
      go_wp2
      all_goals first
        | (go_ret; exact ⟨ret_int (by rw [HZ.out, (ckB_succ hlt ht.out).2 (by omega)]; rfl), B0⟩)
        | (refine ⟨⟨k + 1, by omega, by simp, by simp [prev], (ckB_succ hlt ht.out).1 (by omega)⟩, by simp [intOf]; omega⟩)
        | skip
    · obtain rfl : k = n := by omega
      go_wp2
      go_ret
      exact ⟨ret_int (by rw [HZ.out, ht.out]; rfl), B0⟩
theorem check_any (p : ByteArray) (ao : Option Addr) (n c : Nat) (sv rm : ByteArray) (R : Nat → Int) (w : World) (hp : p.size ≤ 1000000) (hl : n ≤ 1000000) (h : IntsAt w ao n R) :
    Calls Try.prog 17 #[scV p ao n c sv rm] w fun e w' => e = .returned (.int .i64 (if maySB p n sv rm R then 0 else 8)) ∧ Below w.heap.size w w' := by
  by_cases hs : p.size % 2 = 0 ∧ fr p ≤ 600 ∧ sv.size ≤ 8192 ∧ rm.size ≤ 2048
  · have e : maySB p n sv rm R = ckB R n (fr p) := by unfold maySB; rw [decide_eq_true hs, Bool.true_and]
    rw [e]
    by_cases hn : 0 < n
    · obtain ⟨b, off, rfl, hb, hc⟩ := h.some hn
      exact check_some p b off n c sv rm R w hs.1 hs.2.1 hs.2.2.1 hs.2.2.2 hl hb (fun i hi => by have := hc i hi 0 (by omega); rw [Nat.mul_one, Nat.add_zero] at this; exact this)
    · obtain rfl : n = 0 := by omega
      exact check_zero p ao 0 c sv rm w hs.1 hs.2.1 hs.2.2.1 hs.2.2.2 rfl
  · have e : maySB p n sv rm R = false := by unfold maySB; rw [decide_eq_false hs, Bool.false_and]
    rw [e]
    exact check_no p ao n c sv rm w hp hs
end Go.Proofs.Ytkhjfcbloahjeaa
namespace Go.Proofs.Ytkhjfcbloahjeaa
open Go.RowKit Go.Sx
theorem ckB_all {R : Nat → Int} {n : Nat} {m : Int} (h : ckB R n m = true) : ∀ i, i < n → prev R i < R i ∧ R i < m := by
  intro i hi
  unfold ckB at h
  rw [List.all_eq_true] at h
  simpa using h i (by simpa using hi)
theorem ckB_mono {R : Nat → Int} {n : Nat} {m : Int} (h : ckB R n m = true) : ∀ j, j < n → 0 ≤ R j ∧ ∀ i, i < j → R i < R j := by
  have ha := ckB_all h
  intro j
  induction j with
  | zero => intro hj; have := ha 0 hj; simp [prev] at this; exact ⟨by omega, fun i hi => absurd hi (by omega)⟩
  | succ j ih =>
    intro hj
    have h1 := ha (j + 1) hj
    simp [prev] at h1
    have h2 := ih (by omega)
    refine ⟨by omega, fun i hi => ?_⟩
    by_cases e : i = j
    · subst e; omega
    · have := h2.2 i (by omega); omega
/-- How many are below. -/
def cnt (R : Nat → Int) : Nat → Int → Nat
  | 0, _ => 0
  | m + 1, k => cnt R m k + if R m < k then 1 else 0
theorem inR_succ (R : Nat → Int) (m : Nat) (k : Int) : inR R (m + 1) k = (inR R m k || decide (R m = k)) := by
  unfold inR; rw [List.range_succ, List.any_append]; simp
theorem inR_none {R : Nat → Int} {m : Nat} {k : Int} (h : ∀ i, i < m → R i ≠ k) : inR R m k = false := by
  unfold inR; rw [List.any_eq_false]; intro i hi; simpa using h i (by simpa using hi)
theorem cnt_succ {R : Nat → Int} {m : Nat} (h : ∀ j, j < m → ∀ i, i < j → R i < R j) (k : Int) : cnt R m (k + 1) = cnt R m k + if inR R m k then 1 else 0 := by
  induction m with
  | zero => rfl
  | succ m ih =>
    have ih' := ih (fun j hj => h j (by omega))
    rw [inR_succ]
    simp only [cnt]
    rw [ih']
    by_cases e : R m = k
    · rw [inR_none (fun i hi => by have := h m (by omega) i hi; omega)]
      simp [e]; omega
    · by_cases l : R m < k
      · have a : R m < k + 1 := by omega
        simp [e, l, a]; omega
      · have a : ¬ R m < k + 1 := by omega
        simp [e, l, a]
theorem cnt_le (R : Nat → Int) (m : Nat) (k : Int) : cnt R m k ≤ m := by
  induction m with
  | zero => exact Nat.le_refl _
  | succ m ih => simp only [cnt]; split <;> omega
theorem cnt_zero {R : Nat → Int} {m : Nat} (h : ∀ j, j < m → 0 ≤ R j) : cnt R m 0 = 0 := by
  induction m with
  | zero => rfl
  | succ m ih => simp only [cnt]; rw [ih (fun j hj => h j (by omega)), if_neg (by have := h m (by omega); omega)]
theorem cnt_all {R : Nat → Int} {m : Nat} {k : Int} (h : ∀ j, j < m → R j < k) : cnt R m k = m := by
  induction m with
  | zero => rfl
  | succ m ih => simp only [cnt]; rw [ih (fun j hj => h j (by omega)), if_pos (h m (by omega))]
end Go.Proofs.Ytkhjfcbloahjeaa
namespace Go.Proofs.Ytkhjfcbloahjeaa
open Go.RowKit Go.Sx
/-- A script in a block of its own. -/
def ScAt (w : World) (g : Nat) (p : ByteArray) (ao : Option Addr) (n c : Nat) (sv rm : ByteArray) : Prop := w.heap[g]? = some (.cells #[.string p, .slice ao n c, .string sv, .string rm] 28 (0, 0))
theorem ScAt.new (w : World) (p : ByteArray) (ao : Option Addr) (n c : Nat) (sv rm : ByteArray) : ScAt (w.alloc (.cells #[.string p, .slice ao n c, .string sv, .string rm] 28)) w.heap.size p ao n c sv rm := blk_new _ _
theorem ScAt.below {w w' : World} {g : Nat} {p : ByteArray} {ao : Option Addr} {n c : Nat} {sv rm : ByteArray} (h : ScAt w g p ao n c sv rm) (hb : Below w.heap.size w w') : ScAt w' g p ao n c sv rm := (hb.block _ (blk_lt h)).trans h
theorem ScAt.set {w : World} {g : Nat} {p p' : ByteArray} {ao ao' : Option Addr} {n c n' c' : Nat} {sv rm sv' rm' : ByteArray} (h : ScAt w g p ao n c sv rm) :
    ScAt ((((w.setCell ⟨g, 0, none⟩ (.string p')).setCell ⟨g, 1, none⟩ (.slice ao' n' c')).setCell ⟨g, 2, none⟩ (.string sv')).setCell ⟨g, 3, none⟩ (.string rm')) g p' ao' n' c' sv' rm' := by
  have := blk_set (blk_set (blk_set (blk_set h 0 (.string p')) 1 (.slice ao' n' c')) 2 (.string sv')) 3 (.string rm')
  simpa [ScAt] using this
theorem b4 {w0 w : World} {A B : Nat} (h : Below A w0 w) (hB : A ≤ B) (v0 v1 v2 v3 : Value) : Below A w0 ((((w.setCell ⟨B, 0, none⟩ v0).setCell ⟨B, 1, none⟩ v1).setCell ⟨B, 2, none⟩ v2).setCell ⟨B, 3, none⟩ v3) :=
  (((h.setCell (p := ⟨B, 0, none⟩) hB v0).setCell (p := ⟨B, 1, none⟩) hB v1).setCell (p := ⟨B, 2, none⟩) hB v2).setCell (p := ⟨B, 3, none⟩) hB v3
theorem pad_is (p : ByteArray) (ao : Option Addr) (n c : Nat) (sv rm : ByteArray) (f o : Nat) (w : World) (v : Int) (hp : p.size ≤ 1000000) (hf : f < fr p) (ho : o < 2) (hv : v = bt p (2 * f + o)) : Calls Try.prog 19 #[scV p ao n c sv rm, .int .i64 f, .int .i64 o] w fun e w' => e = .returned (.int .u8 v) ∧ Below w.heap.size w w' := by
  rw [hv]; exact pad_yes p ao n c sv rm f o w hp hf ho
set_option maxRecDepth 100000 in
set_option maxHeartbeats 16000000 in
theorem pads_law (p : ByteArray) (ao : Option Addr) (n c : Nat) (sv rm : ByteArray) (R : Nat → Int) (w : World) (hc : n ≤ c) (h : IntsAt w ao n R) :
    Calls Try.prog 5 #[scV p ao n c sv rm] w fun e w' => e = .returned (.bool true) ∧ Below w.heap.size w w' := by
  go_enter Try.func5, Try.ntmps5
  go_wp2_with fail
  refine (few_any p ao n c sv rm _ hc).mono ?_
  rintro e w1 ⟨⟨p', n', sv', rm', rfl, hp, hn, hn', hsv, hrm⟩, b1⟩
  have S1 := (ScAt.new w p ao n c sv rm).below b1
  have B1 := ((Below.refl w.heap.size w).alloc (Nat.le_refl _) (.cells #[.string p, .slice ao n c, .string sv, .string rm] 28)).trans (b1.mono (by simp))
  clear b1
  have c0 : w1.cell? ⟨w.heap.size, 0, none⟩ = some (.string p) := blk_cell S1 0
  have c1 : w1.cell? ⟨w.heap.size, 1, none⟩ = some (.slice ao n c) := blk_cell S1 1
  have c2 : w1.cell? ⟨w.heap.size, 2, none⟩ = some (.string sv) := blk_cell S1 2
  have c3 : w1.cell? ⟨w.heap.size, 3, none⟩ = some (.string rm) := blk_cell S1 3
  have f0 : w1.frozen? ⟨w.heap.size, 0, none⟩ = false := blk_free S1 0
  have f1 : w1.frozen? ⟨w.heap.size, 1, none⟩ = false := blk_free S1 1
  have f2 : w1.frozen? ⟨w.heap.size, 2, none⟩ = false := blk_free S1 2
  have f3 : w1.frozen? ⟨w.heap.size, 3, none⟩ = false := blk_free S1 3
  go_wp2_with fail
  -- REST
  clear c0 c1 c2 c3 f0 f1 f2 f3
  have S2 := S1.set (p' := p') (ao' := ao) (n' := n') (c' := c) (sv' := sv') (rm' := rm')
  have B2 := b4 B1 (Nat.le_refl w.heap.size) (.string p') (.slice ao n' c) (.string sv') (.string rm')
  obtain ⟨w2, hw2⟩ : ∃ w2, w2 = ((((w1.setCell ⟨w.heap.size, 0, none⟩ (.string p')).setCell ⟨w.heap.size, 1, none⟩ (.slice ao n' c)).setCell ⟨w.heap.size, 2, none⟩ (.string sv')).setCell ⟨w.heap.size, 3, none⟩ (.string rm')) := ⟨_, rfl⟩
  rw [← hw2] at S2 B2 ⊢
  clear hw2 S1 B1 w1
  have I2 : IntsAt w2 ao n' R := fun i hi => (h.below B2) i (by omega)
  have hp6 : p'.size ≤ 1000000 := by omega
  refine (check_any p' ao n' c sv' rm' R _ hp6 (by omega) I2).mono ?_
  rintro e w3 ⟨rfl, b3⟩
  have S3 := S2.below b3
  have B3 := B2.trans (b3.mono B2.size)
  have I3 : IntsAt w3 ao n' R := I2.below b3
  clear b3 S2 B2 I2
  have c0 : w3.cell? ⟨w.heap.size, 0, none⟩ = some (.string p') := blk_cell S3 0
  have c1 : w3.cell? ⟨w.heap.size, 1, none⟩ = some (.slice ao n' c) := blk_cell S3 1
  have c2 : w3.cell? ⟨w.heap.size, 2, none⟩ = some (.string sv') := blk_cell S3 2
  have c3 : w3.cell? ⟨w.heap.size, 3, none⟩ = some (.string rm') := blk_cell S3 3
  cases hm : maySB p' n' sv' rm' R
  · simp only [Bool.false_eq_true, if_false]
    go_wp2_with fail
    refine (awake_any _).mono ?_
    rintro e w4 ⟨rfl, b4⟩
    go_wp2
    go_ret
    exact ⟨rfl, B3.trans (b4.mono B3.size)⟩
  · simp only [if_true]
    unfold maySB at hm
    rw [Bool.and_eq_true, decide_eq_true_iff] at hm
    obtain ⟨⟨h1, h2, h3, h4⟩, hck⟩ := hm
    have HCK := hidI hck; clear hck
    have e2 : 2 * (fr p' : Int) = p'.size := by unfold fr; omega
    have hlen : p'.size = 2 * fr p' := by omega
    have H1 := hidI h1; clear h1
    go_wp2_with fail
    refine (frames_any p' ao n' c sv' rm' _ hp6).mono ?_
    rintro e w4 ⟨rfl, b4⟩
    have S4 := S3.below b4
    have B4 := B3.trans (b4.mono B3.size)
    have I4 : IntsAt w4 ao n' R := I3.below b4
    clear b4 S3 B3 I3 c0 c1 c2 c3
    have HL := hidI hlen; clear hlen
    have c0 : w4.cell? ⟨w.heap.size, 0, none⟩ = some (.string p') := blk_cell S4 0
    have c1 : w4.cell? ⟨w.heap.size, 1, none⟩ = some (.slice ao n' c) := blk_cell S4 1
    have c2 : w4.cell? ⟨w.heap.size, 2, none⟩ = some (.string sv') := blk_cell S4 2
    have c3 : w4.cell? ⟨w.heap.size, 3, none⟩ = some (.string rm') := blk_cell S4 3
    go_wp2_with fail
    clear c0 c1 c2 c3
    go_loopw [4] (fun i wr => ∃ k : Nat, k ≤ fr p' ∧ i = .int .i64 k ∧ Below w4.heap.size w4 wr) (fun i _ => fr p' - (intOf i).toNat)
    case atStart => exact ⟨0, Nat.zero_le _, rfl, Below.refl _ _⟩
    case round =>
      obtain ⟨k, hk, rfl, hbl⟩ := hrel
      have Sr := S4.below hbl
      by_cases hlt : k < fr p'
      · obtain ⟨v0, hv0⟩ : ∃ v0, v0 = bt p' (2 * k + 0) := ⟨_, rfl⟩
        obtain ⟨v1, hv1⟩ : ∃ v1, v1 = bt p' (2 * k + 1) := ⟨_, rfl⟩
        have hi0 : 2 * k < p'.size := by rw [HL.out]; omega
        have hi1 : 2 * k + 1 < p'.size := by rw [HL.out]; omega
        have x0 : ((p'[2 * k]'hi0).toNat : Int) = v0 := (bt_eq p' _ hi0).trans hv0.symm
        have x1 : ((p'[2 * k + 1]'hi1).toNat : Int) = v1 := (bt_eq p' _ hi1).trans hv1.symm
        have HV0 := hidI hv0; clear hv0
        have HV1 := hidI hv1; clear hv1
        have z1 : IntKind.i64.wrap (2 * (k : Int)) = 2 * k := by unfold IntKind.wrap; simp [IntKind.signed, IntKind.bits]; omega
        have z2 : IntKind.i64.wrap (2 * (k : Int) + 1) = 2 * k + 1 := by unfold IntKind.wrap; simp [IntKind.signed, IntKind.bits]; omega
        have z3 : IntKind.i64.wrap (-1 - (k : Int)) = -1 - k := by unfold IntKind.wrap; simp [IntKind.signed, IntKind.bits]; omega
        have z4 : IntKind.i64.wrap ((fr p' : Int) + k) = fr p' + k := by unfold IntKind.wrap; simp [IntKind.signed, IntKind.bits]; omega
        have y0 : (0 : Int) ≤ 2 * (k : Int) := by omega
        have y1 : 2 * (k : Int) < p'.size := by omega
        have y2 : (0 : Int) ≤ 2 * (k : Int) + 1 := by omega
        have y3 : 2 * (k : Int) + 1 < p'.size := by omega
        have y4 : (2 * (k : Int)).toNat = 2 * k := by omega
        have y5 : (2 * (k : Int) + 1).toNat = 2 * k + 1 := by omega
        go_upto_region 10 with fail
        have Sd := Sr.below (Below.refl wr.heap.size wr).drew
        have Bd := (Below.refl wr.heap.size wr).drew
        refine wp_region_noPanic ?_
        refine wp_region_held_drew (S := (fun w' => w'.cell? ⟨w.heap.size, 0, none⟩ = some (.string p') ∧ w'.cell? ⟨w.heap.size, 1, none⟩ = some (.slice ao n' c) ∧ w'.cell? ⟨w.heap.size, 2, none⟩ = some (.string sv') ∧ w'.cell? ⟨w.heap.size, 3, none⟩ = some (.string rm'))) (by kernel_rfl) ⟨blk_cell Sr 0, blk_cell Sr 1, blk_cell Sr 2, blk_cell Sr 3⟩ (fun hHeld => ?_)
        refine tk 0 (oi := ⟨_, _, _, _, _, _⟩) (v := ?_) rfl (by rfl) ?_ (by assumption) ?_; rotate_left; (focus (intro w hSw; (try dsimp only at hSw); go_simp; with_reducible rfl)); simp only [Act.put, tA, tB, tC]
        refine tk 1 (oi := ⟨_, _, _, _, _, _⟩) (v := ?_) rfl (by rfl) ?_ (by assumption) ?_; rotate_left; (focus (intro w hSw; (try dsimp only at hSw); go_simp; with_reducible rfl)); simp only [Act.put, tA, tB, tC]
        refine tk 3 (oi := ⟨_, _, _, _, _, _⟩) (v := ?_) rfl (by rfl) ?_ (by assumption) ?_; rotate_left; (focus (intro w hSw; (try dsimp only at hSw); go_simp; with_reducible rfl)); simp only [Act.put, tA, tB, tC]
        refine tk 4 (oi := ⟨_, _, _, _, _, _⟩) (v := ?_) rfl (by rfl) ?_ (by assumption) ?_; rotate_left; (focus (intro w hSw; (try dsimp only at hSw); go_simp; with_reducible rfl)); simp only [Act.put, tA, tB, tC]
        refine tk 5 (oi := ⟨_, _, _, _, _, _⟩) (v := ?_) rfl (by rfl) ?_ (by assumption) ?_; rotate_left; (focus (intro w hSw; (try dsimp only at hSw); go_simp; with_reducible rfl)); simp only [Act.put, tA, tB, tC]
        refine tk 6 (oi := ⟨_, _, _, _, _, _⟩) (v := ?_) rfl (by rfl) ?_ (by assumption) ?_; rotate_left; (focus (intro w hSw; (try dsimp only at hSw); go_simp; with_reducible rfl)); simp only [Act.put, tA, tB, tC]
        refine tk 7 (oi := ⟨_, _, _, _, _, _⟩) (v := ?_) rfl (by rfl) ?_ (by assumption) ?_; rotate_left; (focus (intro w hSw; (try dsimp only at hSw); go_simp; with_reducible rfl)); simp only [Act.put, tA, tB, tC]
        refine wpAnyH_ready (rs := [2]) (by kernel_rfl) (by simp) ?_
        refine AllReadyH.cons (o := ⟨_, _, _, _, _, _⟩) rfl (fun K hK => ?_) AllReadyH.nil
        go_simp
        refine (pad_is p' ao n' c sv' rm' k 0 _ v0 hp6 hlt (by omega) HV0.out).mono ?_
        rintro e we ⟨rfl, bx⟩
        have Se := Sd.below bx
        have Be := Bd.trans (bx.mono Bd.size)
        clear bx
        refine hK.out _ _ ⟨blk_cell Se 0, blk_cell Se 1, blk_cell Se 2, blk_cell Se 3⟩ (fun hHeld => ?_)
        clear hK K
        refine tk 8 (oi := ⟨_, _, _, _, _, _⟩) (v := ?_) rfl (by rfl) ?_ (by assumption) ?_; rotate_left; (focus (intro w hSw; (try dsimp only at hSw); go_simp; with_reducible rfl)); simp only [Act.put, tA, tB, tC]
        refine tk 9 (oi := ⟨_, _, _, _, _, _⟩) (v := ?_) rfl (by rfl) ?_ (by assumption) ?_; rotate_left; (focus (intro w hSw; (try dsimp only at hSw); go_simp; with_reducible rfl)); simp only [Act.put, tA, tB, tC]
        refine tk 10 (oi := ⟨_, _, _, _, _, _⟩) (v := ?_) rfl (by rfl) ?_ (by assumption) ?_; rotate_left; (focus (intro w hSw; (try dsimp only at hSw); go_simp; with_reducible rfl)); simp only [Act.put, tA, tB, tC]
        refine tk 11 (oi := ⟨_, _, _, _, _, _⟩) (v := ?_) rfl (by rfl) ?_ (by assumption) ?_; rotate_left; (focus (intro w hSw; (try dsimp only at hSw); go_simp; with_reducible rfl)); simp only [Act.put, tA, tB, tC]
        refine tk 13 (oi := ⟨_, _, _, _, _, _⟩) (v := ?_) rfl (by rfl) ?_ (by assumption) ?_; rotate_left; (focus (intro w hSw; (try dsimp only at hSw); go_simp; with_reducible rfl)); simp only [Act.put, tA, tB, tC]
        refine tk 14 (oi := ⟨_, _, _, _, _, _⟩) (v := ?_) rfl (by rfl) ?_ (by assumption) ?_; rotate_left; (focus (intro w hSw; (try dsimp only at hSw); go_simp; with_reducible rfl)); simp only [Act.put, tA, tB, tC]
        refine tk 15 (oi := ⟨_, _, _, _, _, _⟩) (v := ?_) rfl (by rfl) ?_ (by assumption) ?_; rotate_left; (focus (intro w hSw; (try dsimp only at hSw); go_simp; with_reducible rfl)); simp only [Act.put, tA, tB, tC]
        refine tk 16 (oi := ⟨_, _, _, _, _, _⟩) (v := ?_) rfl (by rfl) ?_ (by assumption) ?_; rotate_left; (focus (intro w hSw; (try dsimp only at hSw); go_simp; with_reducible rfl)); simp only [Act.put, tA, tB, tC]
        refine tk 17 (oi := ⟨_, _, _, _, _, _⟩) (v := ?_) rfl (by rfl) ?_ (by assumption) ?_; rotate_left; (focus (intro w hSw; (try dsimp only at hSw); go_simp; with_reducible rfl)); simp only [Act.put, tA, tB, tC]
        refine tk 18 (oi := ⟨_, _, _, _, _, _⟩) (v := ?_) rfl (by rfl) ?_ (by assumption) ?_; rotate_left; (focus (intro w hSw; (try dsimp only at hSw); go_simp; with_reducible rfl)); simp only [Act.put, tA, tB, tC]
        refine wpAnyH_ready (rs := [12]) (by kernel_rfl) (by simp) ?_
        refine AllReadyH.cons (o := ⟨_, _, _, _, _, _⟩) rfl (fun K hK => ?_) AllReadyH.nil
        go_simp
        refine (pad_is p' ao n' c sv' rm' k 1 _ v1 hp6 hlt (by omega) HV1.out).mono ?_
        rintro e wf ⟨rfl, bx⟩
        have Sf := Se.below bx
        have Bf := Be.trans (bx.mono Be.size)
        clear bx
        refine hK.out _ _ ⟨blk_cell Sf 0, blk_cell Sf 1, blk_cell Sf 2, blk_cell Sf 3⟩ (fun hHeld => ?_)
        clear hK K
        refine tk 19 (oi := ⟨_, _, _, _, _, _⟩) (v := ?_) rfl (by rfl) ?_ (by assumption) ?_; rotate_left; (focus (intro w hSw; (try dsimp only at hSw); go_simp; with_reducible rfl)); simp only [Act.put, tA, tB, tC]
        refine tk 20 (oi := ⟨_, _, _, _, _, _⟩) (v := ?_) rfl (by rfl) ?_ (by assumption) ?_; rotate_left; (focus (intro w hSw; (try dsimp only at hSw); go_simp; with_reducible rfl)); simp only [Act.put, tA, tB, tC]
        refine tk 21 (oi := ⟨_, _, _, _, _, _⟩) (v := ?_) rfl (by rfl) ?_ (by assumption) ?_; rotate_left; (focus (intro w hSw; (try dsimp only at hSw); go_simp; with_reducible rfl)); simp only [Act.put, tA, tB, tC]
        refine tk 22 (oi := ⟨_, _, _, _, _, _⟩) (v := ?_) rfl (by rfl) ?_ (by assumption) ?_; rotate_left; (focus (intro w hSw; (try dsimp only at hSw); go_simp; with_reducible rfl)); simp only [Act.put, tA, tB, tC]
        refine tk 23 (oi := ⟨_, _, _, _, _, _⟩) (v := ?_) rfl (by rfl) ?_ (by assumption) ?_; rotate_left; (focus (intro w hSw; (try dsimp only at hSw); go_simp; with_reducible rfl)); simp only [Act.put, tA, tB, tC]
        refine wpAnyH_ready (rs := [24]) (by kernel_rfl) (by simp) ?_
        refine AllReadyH.cons (o := ⟨_, _, _, _, _, _⟩) rfl (fun K hK => ?_) AllReadyH.nil
        go_simp
        refine (pad_no p' ao n' c sv' rm' k 2 _ hp6 (by omega)).mono ?_
        rintro e wg ⟨rfl, bx⟩
        have Sg := Sf.below bx
        have Bg := Bf.trans (bx.mono Bf.size)
        clear bx
        refine hK.out _ _ ⟨blk_cell Sg 0, blk_cell Sg 1, blk_cell Sg 2, blk_cell Sg 3⟩ (fun hHeld => ?_)
        clear hK K
        refine tk 25 (oi := ⟨_, _, _, _, _, _⟩) (v := ?_) rfl (by rfl) ?_ (by assumption) ?_; rotate_left; (focus (intro w hSw; (try dsimp only at hSw); go_simp; with_reducible rfl)); simp only [Act.put, tA, tB, tC]
        refine tk 26 (oi := ⟨_, _, _, _, _, _⟩) (v := ?_) rfl (by rfl) ?_ (by assumption) ?_; rotate_left; (focus (intro w hSw; (try dsimp only at hSw); go_simp; with_reducible rfl)); simp only [Act.put, tA, tB, tC]
        refine tk 27 (oi := ⟨_, _, _, _, _, _⟩) (v := ?_) rfl (by rfl) ?_ (by assumption) ?_; rotate_left; (focus (intro w hSw; (try dsimp only at hSw); go_simp; with_reducible rfl)); simp only [Act.put, tA, tB, tC]
        refine tk 28 (oi := ⟨_, _, _, _, _, _⟩) (v := ?_) rfl (by rfl) ?_ (by assumption) ?_; rotate_left; (focus (intro w hSw; (try dsimp only at hSw); go_simp; with_reducible rfl)); simp only [Act.put, tA, tB, tC]
        refine tk 29 (oi := ⟨_, _, _, _, _, _⟩) (v := ?_) rfl (by rfl) ?_ (by assumption) ?_; rotate_left; (focus (intro w hSw; (try dsimp only at hSw); go_simp; with_reducible rfl)); simp only [Act.put, tA, tB, tC]
        refine tk 30 (oi := ⟨_, _, _, _, _, _⟩) (v := ?_) rfl (by rfl) ?_ (by assumption) ?_; rotate_left; (focus (intro w hSw; (try dsimp only at hSw); go_simp; with_reducible rfl)); simp only [Act.put, tA, tB, tC]
        refine wpAnyH_ready (rs := [31]) (by kernel_rfl) (by simp) ?_
        refine AllReadyH.cons (o := ⟨_, _, _, _, _, _⟩) rfl (fun K hK => ?_) AllReadyH.nil
        go_simp
        refine (pad_no p' ao n' c sv' rm' (-1 - (k : Int)) 0 _ hp6 (by omega)).mono ?_
        rintro e wh ⟨rfl, bx⟩
        have Sh := Sg.below bx
        have Bh := Bg.trans (bx.mono Bg.size)
        clear bx
        refine hK.out _ _ ⟨blk_cell Sh 0, blk_cell Sh 1, blk_cell Sh 2, blk_cell Sh 3⟩ (fun hHeld => ?_)
        clear hK K
        refine tk 32 (oi := ⟨_, _, _, _, _, _⟩) (v := ?_) rfl (by rfl) ?_ (by assumption) ?_; rotate_left; (focus (intro w hSw; (try dsimp only at hSw); go_simp; with_reducible rfl)); simp only [Act.put, tA, tB, tC]
        refine tk 33 (oi := ⟨_, _, _, _, _, _⟩) (v := ?_) rfl (by rfl) ?_ (by assumption) ?_; rotate_left; (focus (intro w hSw; (try dsimp only at hSw); go_simp; with_reducible rfl)); simp only [Act.put, tA, tB, tC]
        refine tk 34 (oi := ⟨_, _, _, _, _, _⟩) (v := ?_) rfl (by rfl) ?_ (by assumption) ?_; rotate_left; (focus (intro w hSw; (try dsimp only at hSw); go_simp; with_reducible rfl)); simp only [Act.put, tA, tB, tC]
        refine tk 35 (oi := ⟨_, _, _, _, _, _⟩) (v := ?_) rfl (by rfl) ?_ (by assumption) ?_; rotate_left; (focus (intro w hSw; (try dsimp only at hSw); go_simp; with_reducible rfl)); simp only [Act.put, tA, tB, tC]
        refine tk 36 (oi := ⟨_, _, _, _, _, _⟩) (v := ?_) rfl (by rfl) ?_ (by assumption) ?_; rotate_left; (focus (intro w hSw; (try dsimp only at hSw); go_simp; with_reducible rfl)); simp only [Act.put, tA, tB, tC]
        refine tk 37 (oi := ⟨_, _, _, _, _, _⟩) (v := ?_) rfl (by rfl) ?_ (by assumption) ?_; rotate_left; (focus (intro w hSw; (try dsimp only at hSw); go_simp; with_reducible rfl)); simp only [Act.put, tA, tB, tC]
        refine tk 38 (oi := ⟨_, _, _, _, _, _⟩) (v := ?_) rfl (by rfl) ?_ (by assumption) ?_; rotate_left; (focus (intro w hSw; (try dsimp only at hSw); go_simp; with_reducible rfl)); simp only [Act.put, tA, tB, tC]
        refine wpAnyH_ready (rs := [39]) (by kernel_rfl) (by simp) ?_
        refine AllReadyH.cons (o := ⟨_, _, _, _, _, _⟩) rfl (fun K hK => ?_) AllReadyH.nil
        go_simp
        refine (pad_no p' ao n' c sv' rm' ((fr p' : Int) + k) 1 _ hp6 (by omega)).mono ?_
        rintro e wi ⟨rfl, bx⟩
        have Si := Sh.below bx
        have Bi := Bh.trans (bx.mono Bh.size)
        clear bx
        refine hK.out _ _ ⟨blk_cell Si 0, blk_cell Si 1, blk_cell Si 2, blk_cell Si 3⟩ (fun hHeld => ?_)
        clear hK K
        refine tk 40 (oi := ⟨_, _, _, _, _, _⟩) (v := ?_) rfl (by rfl) ?_ (by assumption) ?_; rotate_left; (focus (intro w hSw; (try dsimp only at hSw); go_simp; with_reducible rfl)); simp only [Act.put, tA, tB, tC]
        refine tk 41 (oi := ⟨_, _, _, _, _, _⟩) (v := ?_) rfl (by rfl) ?_ (by assumption) ?_; rotate_left; (focus (intro w hSw; (try dsimp only at hSw); go_simp; with_reducible rfl)); simp only [Act.put, tA, tB, tC]
        refine wpAnyH_done (by kernel_rfl) (NoPanic.normal ?_) _
        go_wp2_with fail
        exact ⟨⟨k + 1, by omega, by simp, hbl.trans (Bi.mono hbl.size)⟩, by simp [intOf]; omega⟩
      · obtain rfl : k = fr p' := by omega
        have B5 := B4.trans (hbl.mono B4.size)
        have I5 : IntsAt wr ao n' R := I4.below hbl
        clear hbl B4 I4 S4
        obtain ⟨w5, rfl⟩ : ∃ w5, w5 = wr := ⟨_, rfl⟩
        go_wp2_with fail
        go_loopw [5, 6] (fun m i wx => ∃ k : Nat, k ≤ fr p' ∧ i = .int .i64 k ∧ m = .int .i64 (cnt R n' k) ∧ Below w5.heap.size w5 wx) (fun _ i _ => fr p' - (intOf i).toNat)
        case atStart => exact ⟨0, Nat.zero_le _, rfl, by rw [show ((0 : Nat) : Int) = 0 from rfl, cnt_zero (fun j hj => (ckB_mono HCK.out j hj).1)]; rfl, Below.refl _ _⟩
        case round =>
          obtain ⟨k, hk2, rfl, rfl, hbl⟩ := hrel
          have Sx := Sr.below hbl
          have Ix : IntsAt wr ao n' R := I5.below hbl
          have hcn := cnt_succ (fun j hj => (ckB_mono HCK.out j hj).2) (k : Int)
          have HCN := hidI hcn; clear hcn
          have hle : cnt R n' k ≤ 1000000 := Nat.le_trans (cnt_le R n' k) (by omega)
          have c0 : wr.cell? ⟨w.heap.size, 0, none⟩ = some (.string p') := blk_cell Sx 0
          have c1 : wr.cell? ⟨w.heap.size, 1, none⟩ = some (.slice ao n' c) := blk_cell Sx 1
          have c2 : wr.cell? ⟨w.heap.size, 2, none⟩ = some (.string sv') := blk_cell Sx 2
          have c3 : wr.cell? ⟨w.heap.size, 3, none⟩ = some (.string rm') := blk_cell Sx 3
          by_cases hlt : k < fr p'
          · cases hin : inR R n' (k : Int)
            · have HIN := hidI hin; clear hin
              go_wp2_with fail
              refine (reset_any p' ao n' c sv' rm' R _ _ (by omega) Ix).mono ?_
              rw [HIN.out]
              rintro e wa ⟨rfl, ba⟩
              go_wp2_with fail
              refine ⟨⟨k + 1, by omega, by simp, ?_, hbl.trans (ba.mono hbl.size)⟩, by simp [intOf]; omega⟩
              have := HCN.out
              rw [HIN.out] at this
              rw [show ((k + 1 : Nat) : Int) = (k : Int) + 1 by omega, this]
              simp
            · have HIN := hidI hin; clear hin
              go_wp2_with fail
              refine (reset_any p' ao n' c sv' rm' R _ _ (by omega) Ix).mono ?_
              rw [HIN.out]
              rintro e wa ⟨rfl, ba⟩
              go_wp2_with fail
              refine ⟨⟨k + 1, by omega, by simp, ?_, hbl.trans (ba.mono hbl.size)⟩, by simp [intOf]; omega⟩
              have := HCN.out
              rw [HIN.out] at this
              rw [show ((k + 1 : Nat) : Int) = (k : Int) + 1 by omega, this]
              simp
          · obtain rfl : k = fr p' := by omega
            have hca : (cnt R n' (fr p') : Int) = n' := by rw [cnt_all (fun j hj => (ckB_all HCK.out j hj).2)]
            rw [hca]
            clear hca hle HCN
            go_wp2_with fail
            refine (reset_any p' ao n' c sv' rm' R _ _ (by omega) Ix).mono ?_
            rw [inR_none (fun i hi => by have := (ckB_all HCK.out i hi).2; omega)]
            rintro e wa ⟨rfl, ba⟩
            have Sa := Sx.below ba
            have Ia : IntsAt wa ao n' R := Ix.below ba
            clear c0 c1 c2 c3
            have c0 : wa.cell? ⟨w.heap.size, 0, none⟩ = some (.string p') := blk_cell Sa 0
            have c1 : wa.cell? ⟨w.heap.size, 1, none⟩ = some (.slice ao n' c) := blk_cell Sa 1
            have c2 : wa.cell? ⟨w.heap.size, 2, none⟩ = some (.string sv') := blk_cell Sa 2
            have c3 : wa.cell? ⟨w.heap.size, 3, none⟩ = some (.string rm') := blk_cell Sa 3
            go_wp2_with fail
            refine (reset_any p' ao n' c sv' rm' R _ _ (by omega) Ia).mono ?_
            rw [inR_none (fun i hi => by have := (ckB_mono HCK.out i hi).1; omega)]
            rintro e wb ⟨rfl, bb⟩
            go_wp2_with fail
            refine (awake_any _).mono ?_
            rintro e wd ⟨rfl, bd⟩
            go_wp2
            go_ret
            have t1 := B5.trans (hbl.mono B5.size)
            have t2 := t1.trans (ba.mono t1.size)
            have t3 := t2.trans (bb.mono t2.size)
            exact ⟨rfl, t3.trans (bd.mono t3.size)⟩
end Go.Proofs.Ytkhjfcbloahjeaa
