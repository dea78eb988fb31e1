import Derived.Test.YtolennlpkpkhhaaHa0
namespace Go.Proofs.Ytolennlpkpkhhaa
open Go.RowKit Go.Sx
theorem ret_bool {a b : Bool} (h : a = b) : Ending.returned (.bool a) = Ending.returned (.bool b) := by rw [h]
theorem ret_int {k : IntKind} {a b : Int} (h : a = b) : Ending.returned (.int k a) = Ending.returned (.int k b) := by rw [h]
theorem hidI {p : Prop} (h : p) : Hid p := h
theorem below_drewN {B : Nat} {a w : World} (h : Below B a w) (n : Nat) : Below B a (w.drewN n) := h.trans ⟨rfl, rfl, rfl, Nat.le_refl _, fun _ _ => rfl⟩
theorem blk_cell {w : World} {g : Nat} {cs : Array Value} {t : TypeId} {fr : Nat × Nat} (h : w.heap[g]? = some (.cells cs t fr)) (j : Nat) : w.cell? ⟨g, j, none⟩ = cs[j]? := by simp [World.cell?, h]
theorem blk_free {w : World} {g : Nat} {cs : Array Value} {t : TypeId} (h : w.heap[g]? = some (.cells cs t (0, 0))) (j : Nat) : w.frozen? ⟨g, j, none⟩ = false := by simp [World.frozen?, h]
theorem blk_lt {w : World} {g : Nat} {o : Obj} (h : w.heap[g]? = some o) : g < w.heap.size := (Array.getElem?_eq_some_iff.1 h).1
theorem blk_alloc {w : World} {g : Nat} {o : Obj} (h : w.heap[g]? = some o) (x : Obj) : (w.alloc x).heap[g]? = some o := by rw [Below.heap_alloc _ _ _ (blk_lt h)]; exact h
theorem blk_new (w : World) (x : Obj) : (w.alloc x).heap[w.heap.size]? = some x := by show (w.heap.push _)[w.heap.size]? = _; simp
theorem blk_new' {w : World} {g : Nat} (x : Obj) (h : w.heap.size = g) : (w.alloc x).heap[g]? = some x := by subst h; exact blk_new w x
theorem blk_set {w : World} {g : Nat} {cs : Array Value} {t : TypeId} {fr : Nat × Nat} (h : w.heap[g]? = some (.cells cs t fr)) (j : Nat) (v : Value) : (w.setCell ⟨g, j, none⟩ v).heap[g]? = some (.cells (cs.setIfInBounds j v) t fr) := by
  simp only [World.setCell]
  rw [Array.getElem?_modify, if_pos rfl, h]
  rfl
theorem blk_other {w : World} {g : Nat} {a : Addr} (h : a.block ≠ g) (v : Value) : (w.setCell a v).heap[g]? = w.heap[g]? := by
  simp only [World.setCell]
  rw [Array.getElem?_modify, if_neg h]
theorem ext_le (p : ByteArray) (k : Nat) : (p.extract 0 k).size ≤ k := by rw [ByteArray.size_extract]; omega
/-- Octet k of a text. -/
def bt (p : ByteArray) (k : Nat) : Int := ((p.data.getD k 0).toNat : Int)
theorem bt_eq (p : ByteArray) (k : Nat) (h : k < p.size) : ((p[k]'h).toNat : Int) = bt p k := by
  have hk : k < p.data.size := h
  have e : p[k]'h = p.data[k]'hk := rfl
  rw [e, bt, Array.getD_eq_getD_getElem?, Array.getElem?_eq_getElem hk, Option.getD_some]
theorem of_byte {P : Int → Prop} (h : ∀ a : Fin 256, P ((a.val : Nat) : Int)) (x : Int) (h0 : 0 ≤ x) (h1 : x ≤ 255) : P x := by
  have := h ⟨x.toNat, by omega⟩
  simpa only [Int.toNat_of_nonneg h0] using this
theorem of_nib {P : Int → Prop} (h : ∀ a : Fin 16, P ((a.val : Nat) : Int)) (x : Int) (h0 : 0 ≤ x) (h1 : x ≤ 15) : P x := by
  have := h ⟨x.toNat, by omega⟩
  simpa only [Int.toNat_of_nonneg h0] using this
def amtP (l h u : Int) : Int := if h < 15 then u * (256 * h + l) else if 20 < l / 4 then -1 else (2 * (l % 4) + 1) * 2 ^ (l / 4).toNat
def rr : Nat → Int → Int
  | 0, n => n
  | k + 1, n => min (2 * rr k n) 1000000
def amtR (l h u : Int) : Int := if h = 15 then rr (l / 4).toNat (l % 4 * 2 + 1) else (256 * h + l) * u
theorem amt_hi (l h : Int) (l0 : 0 ≤ l) (l1 : l ≤ 255) (h0 : 0 ≤ h) (h1 : h ≤ 15) : bits BinOp.or IntKind.i64 (h * 256) l = 256 * h + l :=
  of_nib (P := fun h => bits BinOp.or IntKind.i64 (h * 256) l = 256 * h + l) (fun a => of_byte (P := fun l => bits BinOp.or IntKind.i64 (((a.val : Nat) : Int) * 256) l = 256 * ((a.val : Nat) : Int) + l) (fun b => (by decide +kernel : ∀ (a : Fin 16) (b : Fin 256), bits BinOp.or IntKind.i64 (((a.val : Nat) : Int) * 256) ((b.val : Nat) : Int) = 256 * ((a.val : Nat) : Int) + ((b.val : Nat) : Int)) a b) l l0 l1) h h0 h1
theorem amt_lo (l : Int) (l0 : 0 ≤ l) (l1 : l ≤ 255) : 20 < l / 4 ∨ wrap64 (wrap64 (wrap64 (2 * wrap64 (bits BinOp.and IntKind.u8 l 3)) + 1) * 2 ^ (l / 4).toNat) = (2 * (l % 4) + 1) * 2 ^ (l / 4).toNat :=
  of_byte (P := fun l => 20 < l / 4 ∨ wrap64 (wrap64 (wrap64 (2 * wrap64 (bits BinOp.and IntKind.u8 l 3)) + 1) * 2 ^ (l / 4).toNat) = (2 * (l % 4) + 1) * 2 ^ (l / 4).toNat) (by decide +kernel) l l0 l1
theorem wrap_is (x : Int) (h0 : -9223372036854775808 ≤ x) (h1 : x ≤ 9223372036854775807) : wrap64 x = x := by
  unfold wrap64; first | omega | (split <;> omega)
theorem amount_any (l h u : Int) (l0 : 0 ≤ l) (l1 : l ≤ 255) (h0 : 0 ≤ h) (h1 : h ≤ 15) (hu : u = 16384 ∨ u = 8192) (w : World) : Calls Try.prog 22 #[.int .u8 l, .int .u8 h, .int .i64 u] w fun e w' => e = .returned (.int .i64 (amtP l h u)) ∧ w = w' := by
  have e1 := hidI (amt_hi l h l0 l1 h0 h1)
  have e2 := hidI (amt_lo l l0 l1)
  obtain ⟨z, hz⟩ : ∃ z, z = amtP l h u := ⟨_, rfl⟩
  rw [← hz]
  unfold amtP at hz
  have HZ := hidI hz; clear hz
  go_enter Try.func22, Try.ntmps22
  go_wp2
  · go_ret
    have hh : h < 15 := by assumption
    exact ⟨ret_int (by rw [HZ.out, if_pos hh, e1.out, wrap_is]; all_goals (rcases hu with rfl | rfl <;> omega)), rfl⟩
  · go_ret
    have hh : ¬ h < 15 := by first | assumption | omega
    have hp : 20 < l / 4 := by first | assumption | omega
    exact ⟨ret_int (by rw [HZ.out, if_neg hh, if_pos hp]), rfl⟩
  · go_ret
    have hh : ¬ h < 15 := by first | assumption | omega
    have hp : ¬ 20 < l / 4 := by first | assumption | omega
    exact ⟨ret_int (by rw [HZ.out, if_neg hh, if_neg hp]; exact e2.out.resolve_left hp), rfl⟩
theorem bit_any (x : Int) (i : Nat) (hi : i < 4) (h0 : 0 ≤ x) (h1 : x ≤ 255) (w : World) : Calls Try.prog 23 #[.int .u8 x, .int .i64 i] w fun e w' => e = .returned (.bool (x / 2 ^ i % 2 == 1)) ∧ w = w' := by
  have hh : i = 0 ∨ i = 1 ∨ i = 2 ∨ i = 3 := by omega
  rcases hh with rfl | rfl | rfl | rfl
  all_goals
    go_enter Try.func23, Try.ntmps23
    go_wp2
    go_ret
    exact ⟨ret_bool (by simp), rfl⟩
theorem known_any (m : Int) (w : World) : Calls Try.prog 20 #[.int .i64 m] w fun e w' => e = .returned (.bool (decide (0 ≤ m ∧ m ≤ 4 ∨ m = 7))) ∧ w = w' := by
  go_enter Try.func20, Try.ntmps20
  go_wp2
  all_goals
    go_ret
    exact ⟨ret_bool (by first | rfl | (rw [Bool.eq_iff_iff]) <;> (simp <;> omega)), rfl⟩
end Go.Proofs.Ytolennlpkpkhhaa
