import Derived.Test.YtdmcmlajpajaaaaProg
import Derived.WalkKit
import Derived.Outline
import Derived.LoopTactic
import Derived.KernelRfl
import Derived.Deep.QuietTactic
import Derived.BigQuiet
import Derived.Test.YtdmcmlajpajaaaaSx25
namespace Go.Proofs.Ytdmcmlajpajaaaa
open Go.RowKit Go.Sx
theorem ret_bool {a b : Bool} (h : a = b) : Ending.returned (.bool a) = Ending.returned (.bool b) := by rw [h]
theorem ret_int {k : IntKind} {a b : Int} (h : a = b) : Ending.returned (.int k a) = Ending.returned (.int k b) := by rw [h]
theorem hidI {p : Prop} (h : p) : Hid p := h

theorem below_drewN {B : Nat} {a w : World} (h : Below B a w) (n : Nat) : Below B a (w.drewN n) := h.trans ⟨rfl, rfl, rfl, Nat.le_refl _, fun _ _ => rfl⟩
/-- What is to be seen of a unit at a place. -/
def dv (X lo hi x : Int) : Int := if x - X < 0 ∨ 7 < x - X then 0 else (lo / 2 ^ (7 - (x - X)).toNat) % 2 + 2 * ((hi / 2 ^ (7 - (x - X)).toNat) % 2)
theorem bit_and1 (a : Int) (h : 0 ≤ a) (h' : a ≤ 255) : bits BinOp.and IntKind.u8 a 1 = a % 2 := by
  have key : ∀ n : Fin 256, bits BinOp.and IntKind.u8 ((n.val : Nat) : Int) 1 = ((n.val : Nat) : Int) % 2 := by decide +kernel
  have := key ⟨a.toNat, by omega⟩
  simp only [Int.toNat_of_nonneg h] at this
  exact this
theorem two_bits (a b : Int) (ha : 0 ≤ a) (ha' : a ≤ 255) (hb : 0 ≤ b) (hb' : b ≤ 255) :
    bits BinOp.or IntKind.u8 (bits BinOp.and IntKind.u8 a 1) (bits BinOp.and IntKind.u8 b 1 * 2 % 256) = a % 2 + 2 * (b % 2) := by
  rw [bit_and1 a ha ha', bit_and1 b hb hb']
  have e1 : a % 2 = 0 ∨ a % 2 = 1 := by omega
  have e2 : b % 2 = 0 ∨ b % 2 = 1 := by omega
  rcases e1 with e1 | e1 <;> rcases e2 with e2 | e2 <;> rw [e1, e2] <;> decide +kernel
theorem shr_in (lo : Int) (k : Nat) (h : 0 ≤ lo) (h' : lo ≤ 255) : 0 ≤ lo / 2 ^ k ∧ lo / 2 ^ k ≤ 255 := by
  have hp : (0 : Int) < 2 ^ k := Int.pow_pos (by omega)
  exact ⟨Int.ediv_nonneg h (Int.le_of_lt hp), Int.le_trans (Int.ediv_le_self _ h) h'⟩
theorem dv_in {X lo hi x : Int} (hl : 0 ≤ lo) (hl' : lo ≤ 255) (hh : 0 ≤ hi) (hh' : hi ≤ 255) (hx : 0 ≤ x - X) (hx' : x - X ≤ 7) :
    bits BinOp.or IntKind.u8 (bits BinOp.and IntKind.u8 (lo / 2 ^ (7 - (x - X)).toNat) 1) (bits BinOp.and IntKind.u8 (hi / 2 ^ (7 - (x - X)).toNat) 1 * 2 % 256) = dv X lo hi x := by
  obtain ⟨a, b⟩ := shr_in lo (7 - (x - X)).toNat hl hl'
  obtain ⟨c, d⟩ := shr_in hi (7 - (x - X)).toNat hh hh'
  rw [two_bits _ _ a b c d, dv, if_neg (by omega)]
theorem dv_le (X lo hi x : Int) : 0 ≤ dv X lo hi x ∧ dv X lo hi x ≤ 3 := by
  unfold dv; split <;> omega

theorem dot_in (X lo hi ti x : Int) (be ze s : Bool) (w : World) (hX : 0 ≤ X) (hX' : X ≤ 255) (hx : 0 ≤ x - X) (hx' : x - X ≤ 7) (hl : 0 ≤ lo) (hl' : lo ≤ 255) (hh : 0 ≤ hi) (hh' : hi ≤ 255) :
    Calls Try.prog 32 #[.agg #[.int .u8 X, .int .u8 lo, .int .u8 hi, .int .u8 ti, .bool be, .bool ze, .bool s], .int .i64 x] w fun e w' => e = .returned (.int .u8 (dv X lo hi x)) ∧ Below w.heap.size w w' := by
  go_enter Try.func32, Try.ntmps32
  go_wp2
  go_quiet (fail)
  go_wp2
  go_ret
  exact ⟨ret_int (dv_in hl hl' hh hh' hx hx'), below_drewN ((Below.refl _ _).alloc (Nat.le_refl _) _) _⟩
theorem dot_out (X lo hi ti x : Int) (be ze s : Bool) (w : World) (hX : 0 ≤ X) (hX' : X ≤ 255) (hx : wrap64 (x - X) < 0 ∨ 7 < wrap64 (x - X)) (hd : dv X lo hi x = 0) :
    Calls Try.prog 32 #[.agg #[.int .u8 X, .int .u8 lo, .int .u8 hi, .int .u8 ti, .bool be, .bool ze, .bool s], .int .i64 x] w fun e w' => e = .returned (.int .u8 (dv X lo hi x)) ∧ Below w.heap.size w w' := by
  rw [hd]
  clear hd
  go_enter Try.func32, Try.ntmps32
  rcases hx with hx | hx
  · go_wp2
    go_ret
    exact ⟨rfl, (Below.refl _ _).alloc (Nat.le_refl _) _⟩
  · have hx0 : ¬ wrap64 (x - X) < 0 := by omega
    go_wp2
    go_ret
    exact ⟨rfl, (Below.refl _ _).alloc (Nat.le_refl _) _⟩
theorem dot_any (X lo hi ti x : Int) (be ze s : Bool) (w : World) (hX : 0 ≤ X) (hX' : X ≤ 255) (hxr : -9223372036854775808 ≤ x) (hxr' : x ≤ 9223372036854775807) (hl : 0 ≤ lo) (hl' : lo ≤ 255) (hh : 0 ≤ hi) (hh' : hi ≤ 255) :
    Calls Try.prog 32 #[.agg #[.int .u8 X, .int .u8 lo, .int .u8 hi, .int .u8 ti, .bool be, .bool ze, .bool s], .int .i64 x] w fun e w' => e = .returned (.int .u8 (dv X lo hi x)) ∧ Below w.heap.size w w' := by
  by_cases hx : 0 ≤ x - X ∧ x - X ≤ 7
  · exact dot_in X lo hi ti x be ze s w hX hX' hx.1 hx.2 hl hl' hh hh'
  · exact dot_out X lo hi ti x be ze s w hX hX' (by unfold wrap64; omega) (by unfold dv; rw [if_pos (by omega)])
end Go.Proofs.Ytdmcmlajpajaaaa
