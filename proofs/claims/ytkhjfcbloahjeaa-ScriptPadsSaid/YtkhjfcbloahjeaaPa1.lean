import Derived.Test.YtkhjfcbloahjeaaPa0
namespace Go.Proofs.Ytkhjfcbloahjeaa
open Go.RowKit Go.Sx
theorem ret_bool {a b : Bool} (h : a = b) : Ending.returned (.bool a) = Ending.returned (.bool b) := by rw [h]
theorem ret_int {k : IntKind} {a b : Int} (h : a = b) : Ending.returned (.int k a) = Ending.returned (.int k b) := by rw [h]
theorem hidI {p : Prop} (h : p) : Hid p := h
theorem below_drewN {B : Nat} {a w : World} (h : Below B a w) (n : Nat) : Below B a (w.drewN n) := h.trans ⟨rfl, rfl, rfl, Nat.le_refl _, fun _ _ => rfl⟩
theorem blk_cell {w : World} {g : Nat} {cs : Array Value} {t : TypeId} {fr : Nat × Nat} (h : w.heap[g]? = some (.cells cs t fr)) (j : Nat) : w.cell? ⟨g, j, none⟩ = cs[j]? := by simp [World.cell?, h]
theorem blk_free {w : World} {g : Nat} {cs : Array Value} {t : TypeId} (h : w.heap[g]? = some (.cells cs t (0, 0))) (j : Nat) : w.frozen? ⟨g, j, none⟩ = false := by simp [World.frozen?, h]
theorem blk_lt {w : World} {g : Nat} {o : Obj} (h : w.heap[g]? = some o) : g < w.heap.size := (Array.getElem?_eq_some_iff.1 h).1
theorem blk_alloc {w : World} {g : Nat} {o : Obj} (h : w.heap[g]? = some o) (x : Obj) : (w.alloc x).heap[g]? = some o := by rw [Below.heap_alloc _ _ _ (blk_lt h)]; exact h
theorem blk_new (w : World) (x : Obj) : (w.alloc x).heap[w.heap.size]? = some x := by show (w.heap.push _)[w.heap.size]? = _; simp
theorem blk_new' {w : World} {g : Nat} (x : Obj) (h : w.heap.size = g) : (w.alloc x).heap[g]? = some x := by subst h; exact blk_new w x
theorem blk_set {w : World} {g : Nat} {cs : Array Value} {t : TypeId} {fr : Nat × Nat} (h : w.heap[g]? = some (.cells cs t fr)) (j : Nat) (v : Value) : (w.setCell ⟨g, j, none⟩ v).heap[g]? = some (.cells (cs.setIfInBounds j v) t fr) := by
  simp only [World.setCell]
  rw [Array.getElem?_modify, if_pos rfl, h]
  rfl
theorem blk_other {w : World} {g : Nat} {a : Addr} (h : a.block ≠ g) (v : Value) : (w.setCell a v).heap[g]? = w.heap[g]? := by
  simp only [World.setCell]
  rw [Array.getElem?_modify, if_neg h]
/-- A script's value. -/
abbrev scV (p : ByteArray) (ao : Option Addr) (n c : Nat) (sv rm : ByteArray) : Value := .agg #[.string p, .slice ao n c, .string sv, .string rm]
def fr (p : ByteArray) : Nat := p.size / 2
theorem frames_any (p : ByteArray) (ao : Option Addr) (n c : Nat) (sv rm : ByteArray) (w : World) (hp : p.size ≤ 1000000) : Calls Try.prog 18 #[scV p ao n c sv rm] w fun e w' => e = .returned (.int .i64 (fr p)) ∧ Below w.heap.size w w' := by
  go_enter Try.func18, Try.ntmps18
  go_wp2
  go_ret
  exact ⟨ret_int (by unfold fr; omega), (Below.refl _ _).alloc (Nat.le_refl _) _⟩
theorem ext_le (p : ByteArray) (k : Nat) : (p.extract 0 k).size ≤ k := by rw [ByteArray.size_extract]; omega
set_option maxHeartbeats 800000 in
theorem few_any (p : ByteArray) (ao : Option Addr) (n c : Nat) (sv rm : ByteArray) (w : World) (hc : n ≤ c) : Calls Try.prog 9 #[scV p ao n c sv rm] w fun e w' => (∃ p' n' sv' rm', e = .returned (scV p' ao n' c sv' rm') ∧ p'.size ≤ 1201 ∧ n' ≤ 20 ∧ n' ≤ n ∧ sv'.size ≤ 8193 ∧ rm'.size ≤ 2049) ∧ Below w.heap.size w w' := by
  have e1 := ext_le p 1201
  have e2 := ext_le sv 8193
  have e3 := ext_le rm 2049
  go_enter Try.func9, Try.ntmps9
  go_wp2
  all_goals exact bodyPost_ret (v := scV _ _ _ _ _ _) (by simp [results, Try.results9, go_sem]; exact ⟨rfl, rfl, rfl, rfl⟩) rfl ⟨⟨_, _, _, _, rfl, by omega, by omega, by omega, by omega, by omega⟩, ((Below.refl _ _).alloc (Nat.le_refl _) _).alloc (by simp) _⟩
end Go.Proofs.Ytkhjfcbloahjeaa
