import Derived.Test.YtdmcmlajpajaaaaProg
import Derived.WalkKit
import Derived.Outline
import Derived.LoopTactic
import Derived.KernelRfl
import Derived.Deep.QuietTactic
import Derived.BigQuiet
import Derived.Test.YtdmcmlajpajaaaaSx25
import Derived.Laws.AppendOwn
import Derived.Deep.RegionHeld3
import Derived.Deep.RegionWith
import Derived.Deep.DeepCutAuto
import Derived.RegionTactic
import Derived.BigRegion
namespace Go.Proofs.Ytdmcmlajpajaaaa
open Go.RowKit Go.Sx
theorem ret_bool {a b : Bool} (h : a = b) : Ending.returned (.bool a) = Ending.returned (.bool b) := by rw [h]
theorem ret_int {k : IntKind} {a b : Int} (h : a = b) : Ending.returned (.int k a) = Ending.returned (.int k b) := by rw [h]
theorem hidI {p : Prop} (h : p) : Hid p := h

theorem below_drewN {B : Nat} {a w : World} (h : Below B a w) (n : Nat) : Below B a (w.drewN n) := h.trans ⟨rfl, rfl, rfl, Nat.le_refl _, fun _ _ => rfl⟩
/-- What is to be seen of a unit at a place. -/
def dv (X lo hi x : Int) : Int := if x - X < 0 ∨ 7 < x - X then 0 else (lo / 2 ^ (7 - (x - X)).toNat) % 2 + 2 * ((hi / 2 ^ (7 - (x - X)).toNat) % 2)
theorem bit_and1 (a : Int) (h : 0 ≤ a) (h' : a ≤ 255) : bits BinOp.and IntKind.u8 a 1 = a % 2 := by
  have key : ∀ n : Fin 256, bits BinOp.and IntKind.u8 ((n.val : Nat) : Int) 1 = ((n.val : Nat) : Int) % 2 := by decide +kernel
  have := key ⟨a.toNat, by omega⟩
  simp only [Int.toNat_of_nonneg h] at this
  exact this
theorem two_bits (a b : Int) (ha : 0 ≤ a) (ha' : a ≤ 255) (hb : 0 ≤ b) (hb' : b ≤ 255) :
    bits BinOp.or IntKind.u8 (bits BinOp.and IntKind.u8 a 1) (bits BinOp.and IntKind.u8 b 1 * 2 % 256) = a % 2 + 2 * (b % 2) := by
  rw [bit_and1 a ha ha', bit_and1 b hb hb']
  have e1 : a % 2 = 0 ∨ a % 2 = 1 := by omega
  have e2 : b % 2 = 0 ∨ b % 2 = 1 := by omega
  rcases e1 with e1 | e1 <;> rcases e2 with e2 | e2 <;> rw [e1, e2] <;> decide +kernel
theorem shr_in (lo : Int) (k : Nat) (h : 0 ≤ lo) (h' : lo ≤ 255) : 0 ≤ lo / 2 ^ k ∧ lo / 2 ^ k ≤ 255 := by
  have hp : (0 : Int) < 2 ^ k := Int.pow_pos (by omega)
  exact ⟨Int.ediv_nonneg h (Int.le_of_lt hp), Int.le_trans (Int.ediv_le_self _ h) h'⟩
theorem dv_in {X lo hi x : Int} (hl : 0 ≤ lo) (hl' : lo ≤ 255) (hh : 0 ≤ hi) (hh' : hi ≤ 255) (hx : 0 ≤ x - X) (hx' : x - X ≤ 7) :
    bits BinOp.or IntKind.u8 (bits BinOp.and IntKind.u8 (lo / 2 ^ (7 - (x - X)).toNat) 1) (bits BinOp.and IntKind.u8 (hi / 2 ^ (7 - (x - X)).toNat) 1 * 2 % 256) = dv X lo hi x := by
  obtain ⟨a, b⟩ := shr_in lo (7 - (x - X)).toNat hl hl'
  obtain ⟨c, d⟩ := shr_in hi (7 - (x - X)).toNat hh hh'
  rw [two_bits _ _ a b c d, dv, if_neg (by omega)]
theorem dv_le (X lo hi x : Int) : 0 ≤ dv X lo hi x ∧ dv X lo hi x ≤ 3 := by
  unfold dv; split <;> omega

theorem dot_in (X lo hi ti x : Int) (be ze s : Bool) (w : World) (hX : 0 ≤ X) (hX' : X ≤ 255) (hx : 0 ≤ x - X) (hx' : x - X ≤ 7) (hl : 0 ≤ lo) (hl' : lo ≤ 255) (hh : 0 ≤ hi) (hh' : hi ≤ 255) :
    Calls Try.prog 32 #[.agg #[.int .u8 X, .int .u8 lo, .int .u8 hi, .int .u8 ti, .bool be, .bool ze, .bool s], .int .i64 x] w fun e w' => e = .returned (.int .u8 (dv X lo hi x)) ∧ Below w.heap.size w w' := by
  go_enter Try.func32, Try.ntmps32
  go_wp2
  go_quiet (fail)
  go_wp2
  go_ret
  exact ⟨ret_int (dv_in hl hl' hh hh' hx hx'), below_drewN ((Below.refl _ _).alloc (Nat.le_refl _) _) _⟩
theorem dot_out (X lo hi ti x : Int) (be ze s : Bool) (w : World) (hX : 0 ≤ X) (hX' : X ≤ 255) (hx : wrap64 (x - X) < 0 ∨ 7 < wrap64 (x - X)) (hd : dv X lo hi x = 0) :
    Calls Try.prog 32 #[.agg #[.int .u8 X, .int .u8 lo, .int .u8 hi, .int .u8 ti, .bool be, .bool ze, .bool s], .int .i64 x] w fun e w' => e = .returned (.int .u8 (dv X lo hi x)) ∧ Below w.heap.size w w' := by
  rw [hd]
  clear hd
  go_enter Try.func32, Try.ntmps32
  rcases hx with hx | hx
  · go_wp2
    go_ret
    exact ⟨rfl, (Below.refl _ _).alloc (Nat.le_refl _) _⟩
  · have hx0 : ¬ wrap64 (x - X) < 0 := by omega
    go_wp2
    go_ret
    exact ⟨rfl, (Below.refl _ _).alloc (Nat.le_refl _) _⟩
theorem dot_any (X lo hi ti x : Int) (be ze s : Bool) (w : World) (hX : 0 ≤ X) (hX' : X ≤ 255) (hxr : -9223372036854775808 ≤ x) (hxr' : x ≤ 9223372036854775807) (hl : 0 ≤ lo) (hl' : lo ≤ 255) (hh : 0 ≤ hi) (hh' : hi ≤ 255) :
    Calls Try.prog 32 #[.agg #[.int .u8 X, .int .u8 lo, .int .u8 hi, .int .u8 ti, .bool be, .bool ze, .bool s], .int .i64 x] w fun e w' => e = .returned (.int .u8 (dv X lo hi x)) ∧ Below w.heap.size w w' := by
  by_cases hx : 0 ≤ x - X ∧ x - X ≤ 7
  · exact dot_in X lo hi ti x be ze s w hX hX' hx.1 hx.2 hl hl' hh hh'
  · exact dot_out X lo hi ti x be ze s w hX hX' (by unfold wrap64; omega) (by unfold dv; rw [if_pos (by omega)])
end Go.Proofs.Ytdmcmlajpajaaaa
namespace Go.Proofs.Ytdmcmlajpajaaaa
open Go.RowKit Go.Sx
/-- Units, field by field. -/
structure Uns where
  X : Nat → Int
  lo : Nat → Int
  hi : Nat → Int
  ti : Nat → Int
  be : Nat → Bool
  ze : Nat → Bool
  s : Nat → Bool
def Uns.C (U : Uns) (i j : Nat) : Value :=
  match j with
  | 0 => .int .u8 (U.X i) | 1 => .int .u8 (U.lo i) | 2 => .int .u8 (U.hi i) | 3 => .int .u8 (U.ti i) | 4 => .bool (U.be i) | 5 => .bool (U.ze i) | _ => .bool (U.s i)
def Uns.v (U : Uns) (x : Int) (i : Nat) : Int := dv (U.X i) (U.lo i) (U.hi i) x
structure Uns.Ok (U : Uns) (n : Nat) : Prop where
  X : ∀ i, i < n → 0 ≤ U.X i ∧ U.X i ≤ 255
  lo : ∀ i, i < n → 0 ≤ U.lo i ∧ U.lo i ≤ 255
  hi : ∀ i, i < n → 0 ≤ U.hi i ∧ U.hi i ≤ 255
  ti : ∀ i, i < n → 0 ≤ U.ti i ∧ U.ti i ≤ 255
/-- The first unit that is seen. -/
def Uns.first (U : Uns) (x : Int) (n : Nat) : Option Nat := (List.range n).find? fun i => decide (0 < U.v x i)
def Uns.dot (U : Uns) (x : Int) (n : Nat) : Int := match U.first x n with | some i => U.v x i + 4 * (U.ti i % 4) | none => 0
def Uns.back (U : Uns) (x : Int) (n : Nat) : Bool := match U.first x n with | some i => U.be i | none => false
def Uns.zero (U : Uns) (x : Int) (n : Nat) : Bool := match U.first x n with | some i => U.ze i | none => false
theorem find_first {p : Nat → Bool} {n k : Nat} (hk : k < n) (h : ∀ j, j < k → p j = false) (hp : p k = true) : (List.range n).find? p = some k := by
  rw [List.find?_range_eq_some]
  exact ⟨hp, by simpa using hk, fun j hj => by simpa using h j hj⟩
theorem find_none {p : Nat → Bool} {n : Nat} (h : ∀ j, j < n → p j = false) : (List.range n).find? p = none := by
  rw [List.find?_eq_none]
  intro x hx
  simpa using h x (by simpa using hx)
theorem first_some {U : Uns} {x : Int} {n k : Nat} (hk : k < n) (h : ∀ j, j < k → U.v x j ≤ 0) (hp : 0 < U.v x k) : U.first x n = some k := find_first hk (fun j hj => by have := h j hj; simp only [decide_eq_false_iff_not]; omega) (by simpa using hp)
theorem first_none {U : Uns} {x : Int} {n : Nat} (h : ∀ j, j < n → U.v x j ≤ 0) : U.first x n = none := find_none (fun j hj => by have := h j hj; simp only [decide_eq_false_iff_not]; omega)
theorem dot_some {U : Uns} {x : Int} {n k : Nat} (hk : k < n) (h : ∀ j, j < k → U.v x j ≤ 0) (hp : 0 < U.v x k) : U.dot x n = U.v x k + 4 * (U.ti k % 4) ∧ U.back x n = U.be k ∧ U.zero x n = U.ze k := by
  simp only [Uns.dot, Uns.back, Uns.zero, first_some hk h hp, and_self]
theorem dot_none {U : Uns} {x : Int} {n : Nat} (h : ∀ j, j < n → U.v x j ≤ 0) : U.dot x n = 0 ∧ U.back x n = false ∧ U.zero x n = false := by
  simp only [Uns.dot, Uns.back, Uns.zero, first_none h, and_self]
theorem ret3 {a b : Int} {c d e f : Bool} (h : a = b ∧ c = d ∧ e = f) : Ending.returned (.tuple #[.int .u8 a, .bool c, .bool e]) = Ending.returned (.tuple #[.int .u8 b, .bool d, .bool f]) := by
  obtain ⟨rfl, rfl, rfl⟩ := h; rfl
theorem tint (v t : Int) (hv : 0 ≤ v ∧ v ≤ 3) (ht : 0 ≤ t ∧ t ≤ 255) : bits BinOp.or IntKind.u8 v (bits BinOp.and IntKind.u8 t 3 * 4 % 256) = v + 4 * (t % 4) := by
  have key : ∀ n : Fin 256, bits BinOp.and IntKind.u8 ((n.val : Nat) : Int) 3 = ((n.val : Nat) : Int) % 4 := by decide +kernel
  have h1 := key ⟨t.toNat, by omega⟩
  simp only [Int.toNat_of_nonneg ht.1] at h1
  rw [h1]
  have e1 : v = 0 ∨ v = 1 ∨ v = 2 ∨ v = 3 := by omega
  have e2 : t % 4 = 0 ∨ t % 4 = 1 ∨ t % 4 = 2 ∨ t % 4 = 3 := by omega
  rcases e1 with e1 | e1 | e1 | e1 <;> rcases e2 with e2 | e2 | e2 | e2 <;> rw [e1, e2] <;> decide +kernel

theorem Dot_zero (ao : Option Addr) (cap : Nat) (x : Int) (w : World) : Calls Try.prog 19 #[.slice ao 0 cap, .int .i64 x] w fun e w' => e = .returned (.tuple #[.int .u8 0, .bool false, .bool false]) ∧ Below w.heap.size w w' := by
  go_enter Try.func19, Try.ntmps19
  go_wp2
  refine wp_loop_rounds 1 ?_
  rw [rounds_succ]
  go_wp2
  go_ret3
  exact ⟨rfl, Below.refl _ _⟩

set_option maxHeartbeats 800000 in
theorem Dot_some (b off n cap : Nat) (U : Uns) (x : Int) (w : World) (hb : b < w.heap.size) (hl : n ≤ 1000000) (hxr : -9223372036854775808 ≤ x) (hxr' : x ≤ 9223372036854775807) (hU : U.Ok n) (h : ∀ i, i < n → ∀ j, j < 7 → w.cell? ⟨b, off + i * 7 + j, none⟩ = some (U.C i j)) :
    Calls Try.prog 19 #[.slice (some ⟨b, off, none⟩) n cap, .int .i64 x] w fun e w' => e = .returned (.tuple #[.int .u8 (U.dot x n), .bool (U.back x n), .bool (U.zero x n)]) ∧ Below w.heap.size w w' := by
  go_enter Try.func19, Try.ntmps19
  go_wp2
  go_loopw [12] (fun i wr => ∃ k : Nat, k ≤ n ∧ i = .int .i64 k ∧ (∀ j, j < k → U.v x j ≤ 0) ∧ Below w.heap.size w wr) (fun i _ => n - (intOf i).toNat)
  case atStart => exact ⟨0, Nat.zero_le _, rfl, fun j hj => absurd hj (by omega), Below.refl _ _⟩
  case round =>
    obtain ⟨k, hk, rfl, ht0, hbl⟩ := hrel
    have ht := hidI ht0; clear ht0
    have hc : ∀ j, j < 7 → k < n → wr.cell? ⟨b, off + k * 7 + j, none⟩ = some (U.C k j) := fun j hj hlt => (hbl.cell (p := ⟨b, off + k * 7 + j, none⟩) (by exact hb)).trans (h k hlt j hj)
    have h0 := hc 0 (by omega)
    have h1 := hc 1 (by omega)
    have h2 := hc 2 (by omega)
    have h3 := hc 3 (by omega)
    have h4 := hc 4 (by omega)
    have h5 := hc 5 (by omega)
    have h6 := hc 6 (by omega)
    clear hc
    simp only [Uns.C, Nat.add_zero] at h0 h1 h2 h3 h4 h5 h6
    by_cases hlt : k < n
    · have H := hidI (And.intro (hU.X k hlt) (And.intro (hU.lo k hlt) (And.intro (hU.hi k hlt) (hU.ti k hlt))))
      obtain ⟨vk, hvk⟩ : ∃ v, v = U.v x k := ⟨_, rfl⟩
      have HV := hidI hvk; clear hvk
      go_wp2_with (go_at_call 32; refine (dot_any _ _ _ _ _ _ _ _ _ H.out.1.1 H.out.1.2 hxr hxr' H.out.2.1.1 H.out.2.1.2 H.out.2.2.1.1 H.out.2.2.1.2).mono ?_; rintro e w' ⟨rfl, hbw⟩)
      · have hbw' : Below (wr.heap.size + 1) (wr.alloc (.cells #[.int .u8 (U.X k), .int .u8 (U.lo k), .int .u8 (U.hi k), .int .u8 (U.ti k), .bool (U.be k), .bool (U.ze k), .bool (U.s k)] 44)) w' := hbw.mono (by simp)
        have q3 : w'.cell? ⟨wr.heap.size, 3, none⟩ = some (.int .u8 (U.ti k)) := (hbw'.cell (by show wr.heap.size < _; omega)).trans (by simp [go_sem])
        have q4 : w'.cell? ⟨wr.heap.size, 4, none⟩ = some (.bool (U.be k)) := (hbw'.cell (by show wr.heap.size < _; omega)).trans (by simp [go_sem])
        have q5 : w'.cell? ⟨wr.heap.size, 5, none⟩ = some (.bool (U.ze k)) := (hbw'.cell (by show wr.heap.size < _; omega)).trans (by simp [go_sem])
        have hpos : 0 < dv (U.X k) (U.lo k) (U.hi k) x := by assumption
        have P := dot_some (U := U) hlt ht.out hpos
        have T := tint (dv (U.X k) (U.lo k) (U.hi k) x) (U.ti k) (dv_le _ _ _ _) H.out.2.2.2
        have P' := hidI P; clear P
        have T' := hidI T; clear T
        have hb2 := hbl.trans (((Below.refl _ _).alloc (Nat.le_refl _) _).trans (hbw'.mono (by omega)) |>.mono hbl.size)
        clear hbw hbw'
        go_quiet (fail)
        go_wp2
        go_ret3
        exact ⟨ret3 ⟨T'.out.trans P'.out.1.symm, P'.out.2.1.symm, P'.out.2.2.symm⟩, below_drewN hb2 _⟩
      · go_roundw
        have hneg : dv (U.X k) (U.lo k) (U.hi k) x ≤ 0 := by assumption
        case rel =>
          refine ⟨k + 1, by omega, by go_num, fun j hj => ?_, hbl.trans (((Below.refl _ _).alloc (Nat.le_refl _) _).trans (hbw.mono (by simp)) |>.mono hbl.size)⟩
          by_cases e : j = k
          · rw [e]; exact hneg
          · exact ht.out j (by omega)
        case measure => simp [intOf]; omega
    · go_wp2
      go_ret3
      have hkn : k = n := by omega
      exact ⟨ret3 (by rw [← hkn]; have := dot_none ht.out; exact ⟨this.1.symm, this.2.1.symm, this.2.2.symm⟩), hbl⟩
theorem Dot_any (ao : Option Addr) (n cap : Nat) (U : Uns) (x : Int) (w : World) (hl : n ≤ 1000000) (hxr : -9223372036854775808 ≤ x) (hxr' : x ≤ 9223372036854775807) (hU : U.Ok n) (h : RowAt w ao n 7 U.C) :
    Calls Try.prog 19 #[.slice ao n cap, .int .i64 x] w fun e w' => e = .returned (.tuple #[.int .u8 (U.dot x n), .bool (U.back x n), .bool (U.zero x n)]) ∧ Below w.heap.size w w' := by
  by_cases hn : 0 < n
  · obtain ⟨b, off, rfl, hb, hc⟩ := h.some hn
    exact Dot_some b off n cap U x w hb hl hxr hxr' hU hc
  · obtain rfl : n = 0 := by omega
    obtain ⟨e1, e2, e3⟩ := dot_none (U := U) (x := x) (n := 0) (fun j hj => absurd hj (by omega))
    rw [e1, e2, e3]
    exact Dot_zero ao cap x w
end Go.Proofs.Ytdmcmlajpajaaaa
namespace Go.Proofs.Ytdmcmlajpajaaaa
open Go.RowKit Go.Sx
theorem rDot_zero (ao : Option Addr) (cap : Nat) (x : Int) (w : World) : Calls Try.prog 20 #[.slice ao 0 cap, .int .i64 x] w fun e w' => e = .returned (.tuple #[.int .u8 0, .bool false, .bool false]) ∧ Below w.heap.size w w' := by
  go_enter Try.func20, Try.ntmps20
  go_wp2
  refine wp_loop_rounds 1 ?_
  rw [rounds_succ]
  go_wp2
  go_ret3
  exact ⟨rfl, Below.refl _ _⟩
set_option maxHeartbeats 800000 in
theorem rDot_some (b off n cap : Nat) (U : Uns) (x : Int) (w : World) (hb : b < w.heap.size) (hl : n ≤ 1000000) (hU : U.Ok n) (h : ∀ i, i < n → ∀ j, j < 7 → w.cell? ⟨b, off + i * 7 + j, none⟩ = some (U.C i j)) :
    Calls Try.prog 20 #[.slice (some ⟨b, off, none⟩) n cap, .int .i64 x] w fun e w' => e = .returned (.tuple #[.int .u8 (U.dot x n), .bool (U.back x n), .bool (U.zero x n)]) ∧ Below w.heap.size w w' := by
  go_enter Try.func20, Try.ntmps20
  go_wp2
  go_loopw [7] (fun i wr => ∃ k : Nat, k ≤ n ∧ i = .int .i64 k ∧ (∀ j, j < k → U.v x j ≤ 0) ∧ Below w.heap.size w wr) (fun i _ => n - (intOf i).toNat)
  case atStart => exact ⟨0, Nat.zero_le _, rfl, fun j hj => absurd hj (by omega), Below.refl _ _⟩
  case round =>
    obtain ⟨k, hk, rfl, ht0, hbl⟩ := hrel
    have ht := hidI ht0; clear ht0
    have hc : ∀ j, j < 7 → k < n → wr.cell? ⟨b, off + k * 7 + j, none⟩ = some (U.C k j) := fun j hj hlt => (hbl.cell (p := ⟨b, off + k * 7 + j, none⟩) (by exact hb)).trans (h k hlt j hj)
    have h0 := hc 0 (by omega)
    have h1 := hc 1 (by omega)
    have h2 := hc 2 (by omega)
    have h3 := hc 3 (by omega)
    have h4 := hc 4 (by omega)
    have h5 := hc 5 (by omega)
    have h6 := hc 6 (by omega)
    clear hc
    simp only [Uns.C, Nat.add_zero] at h0 h1 h2 h3 h4 h5 h6
    by_cases hlt : k < n
    · have H := hidI (And.intro (hU.X k hlt) (And.intro (hU.lo k hlt) (And.intro (hU.hi k hlt) (hU.ti k hlt))))
      have hX0 := H.out.1.1
      have hX1 := H.out.1.2
      have hl0 := H.out.2.1.1
      have hl1 := H.out.2.1.2
      have hh0 := H.out.2.2.1.1
      have hh1 := H.out.2.2.1.2
      have ht0 := H.out.2.2.2.1
      have ht1 := H.out.2.2.2.2
      by_cases hx : 0 ≤ x - U.X k ∧ x - U.X k ≤ 7
      · obtain ⟨hx0, hx1⟩ := hx
        obtain ⟨a1, a2⟩ := shr_in (U.lo k) (7 - (x - U.X k)).toNat hl0 hl1
        obtain ⟨b1, b2⟩ := shr_in (U.hi k) (7 - (x - U.X k)).toNat hh0 hh1
        have hv : dv (U.X k) (U.lo k) (U.hi k) x = U.lo k / 2 ^ (7 - (x - U.X k)).toNat % 2 + 2 * (U.hi k / 2 ^ (7 - (x - U.X k)).toNat % 2) := by rw [dv, if_neg (by omega)]
        have hv' := hidI hv; clear hv
        go_wp2
        go_quiet (fail)
        go_wp2
        · have hpos : 0 < U.lo k / 2 ^ (7 - (x - U.X k)).toNat % 2 + 2 * (U.hi k / 2 ^ (7 - (x - U.X k)).toNat % 2) := by assumption
          have P := dot_some (U := U) hlt ht.out (by rw [Uns.v, hv'.out]; exact hpos)
          have P' := hidI P; clear P
          go_quiet (fail)
          go_wp2
          go_ret3
          exact ⟨ret3 ⟨by rw [P'.out.1, Uns.v, hv'.out], P'.out.2.1.symm, P'.out.2.2.symm⟩, below_drewN (below_drewN (hbl.alloc hbl.size _) _) _⟩
        · go_roundw
          have hneg : U.lo k / 2 ^ (7 - (x - U.X k)).toNat % 2 + 2 * (U.hi k / 2 ^ (7 - (x - U.X k)).toNat % 2) ≤ 0 := by assumption
          case rel =>
            refine ⟨k + 1, by omega, by go_num, fun j hj => ?_, below_drewN (hbl.alloc hbl.size _) _⟩
            by_cases e : j = k
            · rw [e, Uns.v, hv'.out]; exact hneg
            · exact ht.out j (by omega)
          case measure => simp [intOf]; omega
      · have hd : U.v x k ≤ 0 := by simp only [Uns.v, dv]; rw [if_pos (by omega)]; omega
        have hd' := hidI hd; clear hd
        have fin : (k + 1 ≤ n ∧ (∀ j, j < k + 1 → U.v x j ≤ 0)) := ⟨by omega, fun j hj => by
          by_cases e : j = k
          · rw [e]; exact hd'.out
          · exact ht.out j (by omega)⟩
        have fin' := hidI fin; clear fin
        go_wp2
        all_goals
          go_roundw
          case rel => exact ⟨k + 1, fin'.out.1, by go_num, fin'.out.2, hbl.alloc hbl.size _⟩
          case measure => simp [intOf]; omega
    · go_wp2
      go_ret3
      have hkn : k = n := by omega
      exact ⟨ret3 (by rw [← hkn]; have := dot_none ht.out; exact ⟨this.1.symm, this.2.1.symm, this.2.2.symm⟩), hbl⟩
theorem rDot_any (ao : Option Addr) (n cap : Nat) (U : Uns) (x : Int) (w : World) (hl : n ≤ 1000000) (hU : U.Ok n) (h : RowAt w ao n 7 U.C) :
    Calls Try.prog 20 #[.slice ao n cap, .int .i64 x] w fun e w' => e = .returned (.tuple #[.int .u8 (U.dot x n), .bool (U.back x n), .bool (U.zero x n)]) ∧ Below w.heap.size w w' := by
  by_cases hn : 0 < n
  · obtain ⟨b, off, rfl, hb, hc⟩ := h.some hn
    exact rDot_some b off n cap U x w hb hl hU hc
  · obtain rfl : n = 0 := by omega
    obtain ⟨e1, e2, e3⟩ := dot_none (U := U) (x := x) (n := 0) (fun j hj => absurd hj (by omega))
    rw [e1, e2, e3]
    exact rDot_zero ao cap x w
end Go.Proofs.Ytdmcmlajpajaaaa
namespace Go.Proofs.Ytdmcmlajpajaaaa
open Go.RowKit Go.Sx
theorem any_succ {n k : Nat} {S : Nat → Bool} (hk : k < n) (h : (List.range k).any S = false) : (S k = true → (List.range n).any S = true) ∧ (S k = false → (List.range (k + 1)).any S = false) := by
  refine ⟨fun hs => ?_, fun hs => ?_⟩
  · rw [List.any_eq_true]; exact ⟨k, by simpa using hk, hs⟩
  · rw [List.range_succ, List.any_append, h]; simp [hs]
theorem rAny_zero (ao : Option Addr) (cap : Nat) (w : World) : Calls Try.prog 22 #[.slice ao 0 cap] w fun e w' => e = .returned (.bool false) ∧ Below w.heap.size w w' := by
  go_enter Try.func22, Try.ntmps22
  go_wp2
  refine wp_loop_rounds 1 ?_
  rw [rounds_succ]
  go_wp2
  go_ret
  exact ⟨rfl, Below.refl _ _⟩
set_option maxHeartbeats 400000 in
theorem rAny_some (b off n cap : Nat) (S : Nat → Bool) (w : World) (hl : n ≤ 1000000) (h : ∀ i, i < n → w.cell? ⟨b, off + i * 7 + 6, none⟩ = some (.bool (S i))) :
    Calls Try.prog 22 #[.slice (some ⟨b, off, none⟩) n cap] w fun e w' => e = .returned (.bool ((List.range n).any S)) ∧ Below w.heap.size w w' := by
  go_enter Try.func22, Try.ntmps22
  go_wp2
  go_loop [3] (fun i => ∃ k : Nat, k ≤ n ∧ i = .int .i64 k ∧ (List.range k).any S = false) (fun i => n - (intOf i).toNat)
  case atStart => exact ⟨0, Nat.zero_le _, rfl, rfl⟩
  case round =>
    obtain ⟨k, hk, rfl, ht0⟩ := hrel
    have ht := hidI ht0; clear ht0
    have hcs : k < n → w.cell? ⟨b, off + k * 7 + 6, none⟩ = some (.bool (S k)) := fun hlt => h k hlt
    go_wp2
    · go_ret
      have hlt : k < n := by assumption
      have hs : S k = true := by assumption
      exact ⟨ret_bool ((any_succ hlt ht.out).1 hs).symm, Below.refl _ _⟩
    · go_round
      have hlt : k < n := by assumption
      have hs : S k = false := by assumption
      case rel => exact ⟨k + 1, by omega, by go_num, (any_succ hlt ht.out).2 hs⟩
      case measure => simp [intOf]; omega
    · go_ret
      have : k = n := by omega
      subst this
      exact ⟨ret_bool ht.out.symm, Below.refl _ _⟩
theorem rAny_any (ao : Option Addr) (n cap : Nat) (U : Uns) (w : World) (hl : n ≤ 1000000) (h : RowAt w ao n 7 U.C) :
    Calls Try.prog 22 #[.slice ao n cap] w fun e w' => e = .returned (.bool ((List.range n).any U.s)) ∧ Below w.heap.size w w' := by
  by_cases hn : 0 < n
  · obtain ⟨b, off, rfl, _, hc⟩ := h.some hn
    exact rAny_some b off n cap U.s w hl (fun i hi => hc i hi 6 (by omega))
  · obtain rfl : n = 0 := by omega
    exact rAny_zero ao cap w

/-! The library's -/
theorem cl_any (a b c d : Value) (x y s : Bool) (w : World) : Calls Try.prog 34 #[.agg #[a, b, c, d, .bool x, .bool y, .bool s]] w fun e w' => e = .returned (.bool s) ∧ Below w.heap.size w w' := by
  go_enter Try.func34, Try.ntmps34
  go_wp2
  go_ret
  exact ⟨rfl, (Below.refl _ _).alloc (Nat.le_refl _) _⟩
set_option maxHeartbeats 400000 in
theorem idx_some (b off n cap : Nat) (U : Uns) (w : World) (hb : b < w.heap.size) (hl : n ≤ 1000000) (h : ∀ i, i < n → ∀ j, j < 7 → w.cell? ⟨b, off + i * 7 + j, none⟩ = some (U.C i j)) :
    Calls Try.prog 35 #[.slice (some ⟨b, off, none⟩) n cap, .func (.func 34) #[] #[]] w fun e w' => (∃ z : Int, e = .returned (.int .i64 z) ∧ decide (0 ≤ z) = (List.range n).any U.s) ∧ Below w.heap.size w w' := by
  go_enter Try.func35, Try.ntmps35
  go_wp2
  go_loopw [8] (fun i wr => ∃ k : Nat, k ≤ n ∧ i = .int .i64 k ∧ (List.range k).any U.s = false ∧ Below w.heap.size w wr) (fun i _ => n - (intOf i).toNat)
  case atStart => exact ⟨0, Nat.zero_le _, rfl, rfl, Below.refl _ _⟩
  case round =>
    obtain ⟨k, hk, rfl, ht0, hbl⟩ := hrel
    have ht := hidI ht0; clear ht0
    have hc : ∀ j, j < 7 → k < n → wr.cell? ⟨b, off + k * 7 + j, none⟩ = some (U.C k j) := fun j hj hlt => (hbl.cell (p := ⟨b, off + k * 7 + j, none⟩) (by exact hb)).trans (h k hlt j hj)
    have h0 := hc 0 (by omega)
    have h1 := hc 1 (by omega)
    have h2 := hc 2 (by omega)
    have h3 := hc 3 (by omega)
    have h4 := hc 4 (by omega)
    have h5 := hc 5 (by omega)
    have h6 := hc 6 (by omega)
    clear hc
    simp only [Uns.C, Nat.add_zero] at h0 h1 h2 h3 h4 h5 h6
    go_wp2_with (go_at_call 34; refine (cl_any _ _ _ _ _ _ _ _).mono ?_; rintro e w' ⟨rfl, hbw⟩)
    · go_ret
      have hlt : k < n := by assumption
      have hs : U.s k = true := by assumption
      exact ⟨⟨_, rfl, by rw [(any_succ hlt ht.out).1 hs]; simp⟩, hbl.trans (hbw.mono hbl.size)⟩
    · go_roundw
      have hlt : k < n := by assumption
      have hs : U.s k = false := by assumption
      case rel => exact ⟨k + 1, by omega, by go_num, (any_succ hlt ht.out).2 hs, hbl.trans (hbw.mono hbl.size)⟩
      case measure => simp [intOf]; omega
    · go_ret
      have : k = n := by omega
      subst this
      exact ⟨⟨_, rfl, by rw [ht.out]; rfl⟩, hbl⟩
theorem idx_any (ao : Option Addr) (n cap : Nat) (U : Uns) (w : World) (hl : n ≤ 1000000) (h : RowAt w ao n 7 U.C) :
    Calls Try.prog 35 #[.slice ao n cap, .func (.func 34) #[] #[]] w fun e w' => (∃ z : Int, e = .returned (.int .i64 z) ∧ decide (0 ≤ z) = (List.range n).any U.s) ∧ Below w.heap.size w w' := by
  by_cases hn : 0 < n
  · obtain ⟨b, off, rfl, hb, hc⟩ := h.some hn
    exact idx_some b off n cap U w hb hl hc
  · obtain rfl : n = 0 := by omega
    go_enter Try.func35, Try.ntmps35
    go_wp2
    refine wp_loop_rounds 1 ?_
    rw [rounds_succ]
    go_wp2
    go_ret
    exact ⟨⟨_, rfl, rfl⟩, Below.refl _ _⟩
theorem cont_any (ao : Option Addr) (n cap : Nat) (U : Uns) (w : World) (hl : n ≤ 1000000) (h : RowAt w ao n 7 U.C) :
    Calls Try.prog 33 #[.slice ao n cap, .func (.func 34) #[] #[]] w fun e w' => e = .returned (.bool ((List.range n).any U.s)) ∧ Below w.heap.size w w' := by
  go_enter Try.func33, Try.ntmps33
  go_wp2_with (go_at_call 35; refine (idx_any _ _ _ U _ hl h).mono ?_; rintro e w' ⟨⟨z, rfl, hz⟩, hbw⟩)
  go_ret
  exact ⟨rfl, hbw⟩
theorem Any_any (ao : Option Addr) (n cap : Nat) (U : Uns) (w : World) (hl : n ≤ 1000000) (h : RowAt w ao n 7 U.C) :
    Calls Try.prog 21 #[.slice ao n cap] w fun e w' => e = .returned (.bool ((List.range n).any U.s)) ∧ Below w.heap.size w w' := by
  go_enter Try.func21, Try.ntmps21
  go_wp2_with (go_at_call 33; refine (cont_any _ _ _ U _ hl h).mono ?_; rintro e w' ⟨rfl, hbw⟩)
  go_ret
  exact ⟨rfl, hbw⟩
end Go.Proofs.Ytdmcmlajpajaaaa
namespace Go.Proofs.Ytdmcmlajpajaaaa
open Go.RowKit Go.Sx
theorem ret_slice {a : Option Addr} {n c m d : Nat} (h : n = m) (h' : c = d) : Ending.returned (.slice a n c) = Ending.returned (.slice a m d) := by rw [h, h']
def mayB (n : Nat) (i line : Int) : Bool := decide (n = 256 ∧ 0 ≤ i ∧ i ≤ 63 ∧ 0 ≤ line ∧ line ≤ 255)
theorem may_any (ao : Option Addr) (n cap : Nat) (i line : Int) (w : World) : Calls Try.prog 23 #[.slice ao n cap, .int .i64 i, .int .i64 line] w fun e w' => e = .returned (.bool (mayB n i line)) ∧ w = w' := by
  go_enter Try.func23, Try.ntmps23
  go_wp2
  all_goals
    go_ret
    refine ⟨ret_bool ?_, rfl⟩
    unfold mayB
    first
      | (symm; rw [decide_eq_false_iff_not]; omega)
      | (rw [decide_eq_decide]; omega)
theorem May_any (ao : Option Addr) (n cap : Nat) (i line : Int) (w : World) : Calls Try.prog 12 #[.slice ao n cap, .int .i64 i, .int .i64 line] w fun e w' => e = .returned (.bool (mayB n i line)) ∧ w = w' := by
  go_enter Try.func12, Try.ntmps12
  go_wp2
  all_goals
    go_ret
    refine ⟨ret_bool ?_, rfl⟩
    unfold mayB
    first
      | (symm; rw [decide_eq_false_iff_not]; omega)
      | (rw [decide_eq_decide]; omega)
theorem high_any (t : Bool) (w : World) : Calls Try.prog 25 #[.bool t] w fun e w' => e = .returned (.int .i64 (if t then 16 else 8)) ∧ w = w' := by
  cases t
  all_goals
    go_enter Try.func25, Try.ntmps25
    go_wp2
    go_ret
    exact ⟨rfl, rfl⟩
theorem lines_any (t : Bool) (w : World) : Calls Try.prog 30 #[.bool t] w fun e w' => e = .returned (.int .i64 (if t then 16 else 8)) ∧ w = w' := by
  cases t
  all_goals
    go_enter Try.func30, Try.ntmps30
    go_wp2
    go_ret
    exact ⟨rfl, rfl⟩
theorem one_any (b off cap : Nat) (i : Nat) (w : World) (hi : i < 64) (hc : 256 ≤ cap) : Calls Try.prog 26 #[.slice (some ⟨b, off, none⟩) 256 cap, .int .i64 i] w fun e w' => e = .returned (.slice (some ⟨b, off + 4 * i * 2, none⟩) 4 4) ∧ w = w' := by
  go_enter Try.func26, Try.ntmps26
  go_wp2
  go_ret
  exact ⟨ret_slice (by omega) (by omega), rfl⟩
theorem few_any (ao : Option Addr) (n cap : Nat) (w : World) (hc : n ≤ cap) : Calls Try.prog 9 #[.slice ao n cap] w fun e w' => (∃ cap', e = .returned (.slice ao (min n 257) cap') ∧ min n 257 ≤ cap') ∧ w = w' := by
  go_enter Try.func9, Try.ntmps9
  go_wp2
  · go_ret
    have h : (257 : Int) < n := by assumption
    exact ⟨⟨cap, by rw [Nat.min_eq_right (by omega)]; rfl, by omega⟩, rfl⟩
  · go_ret
    have h : (n : Int) ≤ 257 := by assumption
    exact ⟨⟨cap, by rw [Nat.min_eq_left (by omega)]; rfl, by omega⟩, rfl⟩
end Go.Proofs.Ytdmcmlajpajaaaa
namespace Go.Proofs.Ytdmcmlajpajaaaa
open Go.RowKit Go.Sx
def ByC (V : Nat → Int) (S : Nat → Bool) (i j : Nat) : Value := if j = 0 then .int .u8 (V i) else .bool (S i)
def hi (t : Bool) : Int := if t then 16 else 8
/-- Is a sprite's Y on the line? -/
def onL (y line : Int) (t : Bool) : Bool := decide (0 ≤ line - y ∧ line - y < hi t)
/-- The same memory. -/
def Same (w w' : World) : Prop := w'.heap = w.heap ∧ w'.os = w.os ∧ w'.tape = w.tape ∧ w'.output = w.output
theorem here_any (b off : Nat) (y line : Int) (s0 sec t : Bool) (Bs Bl Bt : Nat) (w : World) (hy : 0 ≤ y) (hy' : y ≤ 255) (hl : 0 ≤ line) (hl' : line ≤ 255)
    (c0 : w.cell? ⟨b, off, none⟩ = some (.int .u8 y)) (c1 : w.cell? ⟨b, off + 1, none⟩ = some (.bool s0)) (hbs : b ≠ Bs) (hls : Bl ≠ Bs) (hts : Bt ≠ Bs)
    (cs : w.cell? ⟨Bs, 0, none⟩ = some (.bool sec)) (fs : w.frozen? ⟨Bs, 0, none⟩ = false) (cl : w.cell? ⟨Bl, 0, none⟩ = some (.int .i64 line)) (ct : w.cell? ⟨Bt, 0, none⟩ = some (.bool t)) :
    Calls Try.prog 24 #[.slice (some ⟨b, off, none⟩) 4 4, .pointer (some ⟨Bs, 0, none⟩), .pointer (some ⟨Bl, 0, none⟩), .pointer (some ⟨Bt, 0, none⟩)] w
      fun e w' => e = .returned (.bool (onL y line t)) ∧ Same (w.setCell ⟨Bs, 0, none⟩ (.bool (sec || s0))) w' := by
  have k : ∀ v : Value, (w.setCell ⟨Bs, 0, none⟩ v).cell? ⟨b, off, none⟩ = some (.int .u8 y) ∧ (w.setCell ⟨Bs, 0, none⟩ v).cell? ⟨Bl, 0, none⟩ = some (.int .i64 line) ∧ (w.setCell ⟨Bs, 0, none⟩ v).cell? ⟨Bt, 0, none⟩ = some (.bool t) := fun v =>
    ⟨(World.cell?_setCell_other _ _ _ _ (by intro e; cases e; exact hbs rfl)).trans c0, (World.cell?_setCell_other _ _ _ _ (by intro e; cases e; exact hls rfl)).trans cl, (World.cell?_setCell_other _ _ _ _ (by intro e; cases e; exact hts rfl)).trans ct⟩
  obtain ⟨k1, k2, k3⟩ := k (.bool (sec || s0))
  clear k
  cases sec
  all_goals
    simp only [Bool.false_or, Bool.true_or] at k1 k2 k3 ⊢
    go_enter Try.func24, Try.ntmps24
    go_wp2
    go_quiet (fail)
    go_wp2_with (go_at_call 25; refine (high_any _ _).mono ?_; rintro e w' ⟨rfl, rfl⟩)
    all_goals
      go_ret
      refine ⟨ret_bool ?_, rfl, rfl, rfl, rfl⟩
      unfold onL hi
      first
        | (symm; rw [decide_eq_false_iff_not]; omega)
        | (rw [decide_eq_decide]; simp; omega)
end Go.Proofs.Ytdmcmlajpajaaaa
namespace Go.Proofs.Ytdmcmlajpajaaaa
open Go.RowKit Go.Sx
theorem cell_one_new (w : World) (x : Value) (t : TypeId) : ∀ j u, [x][j]? = some u → (w.alloc (.cells #[x] t)).cell? ((⟨w.heap.size, 0, none⟩ : Addr).add j) = some u := by
  intro j u hj
  match j, hj with
  | 0, hj => simp at hj; subst hj; simp [Addr.add]
theorem infoI : (Try.prog.info? 3).map (fun i => (i.zero, i.size, i.bytes)) = some (some (.int .i64 0), 1, 8) := by kernel_rfl
/-- Those of the first k that are on the line. -/
def fnd (V : Nat → Int) (line : Int) (t : Bool) (k : Nat) : List Nat := (List.range k).filter fun i => onL (V (4 * i)) line t
def secs (S : Nat → Bool) (k : Nat) : Bool := (List.range k).any fun i => S (4 * i)
def ints (l : List Nat) : List Value := l.map fun (i : Nat) => Value.int .i64 (i : Int)
theorem fnd_succ (V : Nat → Int) (line : Int) (t : Bool) (k : Nat) : fnd V line t (k + 1) = fnd V line t k ++ if onL (V (4 * k)) line t then [k] else [] := by
  unfold fnd
  rw [List.range_succ, List.filter_append]
  cases h : onL (V (4 * k)) line t <;> simp [h]
theorem fnd_le (V : Nat → Int) (line : Int) (t : Bool) (k : Nat) : (fnd V line t k).length ≤ k := by
  unfold fnd; exact Nat.le_trans (List.length_filter_le _ _) (by simp)
theorem secs_succ (S : Nat → Bool) (k : Nat) : secs S (k + 1) = (secs S k || S (4 * k)) := by
  unfold secs; rw [List.range_succ, List.any_append]; simp
theorem Find_no (ao : Option Addr) (n cap : Nat) (line : Int) (t : Bool) (w : World) (h0 : mayB n 0 line = false) :
    Calls Try.prog 10 #[.slice ao n cap, .int .i64 line, .bool t] w fun e w' => e = .returned (.tuple #[.slice none 0 0, .bool false, .bool false, .int .i64 1]) ∧ Below w.heap.size w w' := by
  have H := hidI h0; clear h0
  go_enter Try.func10, Try.ntmps10
  go_wp2_with (go_at_call 23; refine (may_any _ _ _ _ _ _).mono ?_; rw [H.out]; rintro e w' ⟨rfl, rfl⟩)
  refine bodyPost_ret (v := .tuple #[.slice none 0 0, .bool false, .bool false, .int .i64 1]) (by simp [results, Try.results10, go_sem]) rfl ⟨rfl, ((Below.refl _ _).alloc (Nat.le_refl _) _).alloc (by simp) _⟩
theorem alloc_last (w : World) (o : Obj) {i : Nat} (h : i = w.heap.size) {hi : i < (w.alloc o).heap.size} : (w.alloc o).heap[i] = o := by
  subst h
  show (w.heap.push o)[w.heap.size]'(by simp) = o
  simp
/-- A slice of numbers that the call owns, as others read it. -/
theorem own_row {w : World} {base e : Nat} {g n cap : Nat} {l : List Nat} (h : w.ownsRow base e 1 (.slice (some ⟨g, 0, none⟩) n cap) n (ints l)) (q m : Nat) (hm : m ≤ n) : RowAt (w.drewN q) (some ⟨g, 0, none⟩) m 1 (fun i _ => .int .i64 (l.getD i 0)) := by
  intro i hi
  obtain ⟨hlen, hv⟩ := h
  rcases hv with ⟨hv, _⟩ | ⟨g', cp, cur, hv, hg, hh, hnc, hcm, hcs, htk⟩
  · cases hv
  · cases hv
    refine ⟨g, 0, rfl, lt_of_block hh, fun j hj => ?_⟩
    obtain rfl : j = 0 := by omega
    simp only [ints, List.length_map] at hlen
    have hc : cur[i]? = some (.int .i64 ((l.getD i 0 : Nat) : Int)) := by
      have h1 : (cur.toList.take (n * 1))[i]? = cur[i]? := by rw [List.getElem?_take_of_lt (by omega), Array.getElem?_toList]
      rw [← h1, htk, ints, List.getElem?_map, List.getElem?_eq_getElem (by omega)]
      simp [List.getD_eq_getElem?_getD, List.getElem?_eq_getElem (show i < l.length by omega)]
    show w.cell? _ = _
    simp [World.cell?, hh, hc]
/-- What the loop of Find keeps. -/
structure FR (w wr : World) (V : Nat → Int) (S : Nat → Bool) (line : Int) (t : Bool) (k : Nat) (v : Value) : Prop where
  own : wr.ownsRow (w.heap.size + 1 + 1 + 1) 3 1 v (fnd V line t k).length (ints (fnd V line t k))
  S : wr.heap[w.heap.size + 1 + 1]? = some (.cells #[.bool (secs S k)] 4 (0, 0))
  L : wr.cell? ⟨w.heap.size, 0, none⟩ = some (.int .i64 line)
  T : wr.cell? ⟨w.heap.size + 1, 0, none⟩ = some (.bool t)
  bl : Below w.heap.size w wr
theorem same_cell {w w' : World} (h : Same w w') (a : Addr) : w'.cell? a = w.cell? a := by simp [World.cell?, h.1]
theorem same_below {B : Nat} {a w w' : World} (h : Same w w') (hb : Below B a w) : Below B a w' := ⟨h.2.1.trans hb.os, h.2.2.1.trans hb.tape, h.2.2.2.trans hb.output, by rw [h.1]; exact hb.size, fun k hk => by rw [h.1]; exact hb.block k hk⟩
theorem same_own {w w' : World} (h : Same w w') {b e s n : Nat} {v : Value} {xs : List Value} (ho : w.ownsRow b e s v n xs) : w'.ownsRow b e s v n xs := by
  unfold World.ownsRow; rw [h.1]; exact ho
/-- Behind the closure. -/
theorem FR.clos {w wr w' : World} {V : Nat → Int} {S : Nat → Bool} {line : Int} {t : Bool} {k : Nat} {v : Value} (h : FR w wr V S line t k v) (Q : Same (wr.setCell ⟨w.heap.size + 1 + 1, 0, none⟩ (.bool (secs S k || S (4 * k)))) w') :
    w'.ownsRow (w.heap.size + 1 + 1 + 1) 3 1 v (fnd V line t k).length (ints (fnd V line t k)) ∧ w'.heap[w.heap.size + 1 + 1]? = some (.cells #[.bool (secs S (k + 1))] 4 (0, 0)) ∧ w'.cell? ⟨w.heap.size, 0, none⟩ = some (.int .i64 line) ∧
      w'.cell? ⟨w.heap.size + 1, 0, none⟩ = some (.bool t) ∧ Below w.heap.size w w' := by
  refine ⟨same_own Q (ownsRow_setCell_below h.own (by simp) _), ?_, ?_, ?_, same_below Q (h.bl.setCell (by simp; omega) _)⟩
  · rw [Q.1, secs_succ]; exact one_setCell h.S
  · rw [same_cell Q]; exact (World.cell?_setCell_other _ _ _ _ (by intro e; simp at e)).trans h.L
  · rw [same_cell Q]; exact (World.cell?_setCell_other _ _ _ _ (by intro e; simp at e)).trans h.T
theorem FR.miss {w wr w' : World} {V : Nat → Int} {S : Nat → Bool} {line : Int} {t : Bool} {k : Nat} {v : Value} (h : FR w wr V S line t k v) (Q : Same (wr.setCell ⟨w.heap.size + 1 + 1, 0, none⟩ (.bool (secs S k || S (4 * k)))) w') (hm : onL (V (4 * k)) line t = false) : FR w w' V S line t (k + 1) v := by
  obtain ⟨a, b, c, d, e⟩ := h.clos Q
  refine ⟨?_, b, c, d, e⟩
  rw [fnd_succ, hm]
  simpa using a
theorem FR.hit {w wr w' w1 : World} {V : Nat → Int} {S : Nat → Bool} {line : Int} {t : Bool} {k : Nat} {v v' : Value} {o : Obj} (h : FR w wr V S line t k v) (Q : Same (wr.setCell ⟨w.heap.size + 1 + 1, 0, none⟩ (.bool (secs S k || S (4 * k)))) w') (hm : onL (V (4 * k)) line t = true)
    (ho : w1.ownsRow (w.heap.size + 1 + 1 + 1) 3 1 v' ((fnd V line t k).length + 1) (ints (fnd V line t k) ++ [.int .i64 (k : Int)])) (hg : (w'.alloc o).grownBy w1 v.ownBlock) : FR w w1 V S line t (k + 1) v' := by
  obtain ⟨a, b, c, d, e⟩ := h.clos Q
  have hb := lt_of_block b
  have hne : ∀ j, j < w.heap.size + 1 + 1 + 1 → some j ≠ v.ownBlock := fun j hj he => by have := a.lt j he.symm; omega
  refine ⟨?_, ?_, ?_, ?_, (e.alloc (by omega) o).grown hg (by simp; omega) (fun j hj => by have := (a.lt j hj).1; omega)⟩
  · rw [fnd_succ, hm]; simpa [ints] using ho
  · rw [hg.block _ (by simp; omega) (hne _ (by omega)), Below.heap_alloc _ _ _ hb]; exact b
  · exact hg.cell ((World.cell?_alloc_past _ _ _ (by show w.heap.size < w'.heap.size; omega)).trans c) (hne w.heap.size (by omega))
  · exact hg.cell ((World.cell?_alloc_past _ _ _ (by show w.heap.size + 1 < w'.heap.size; omega)).trans d) (hne (w.heap.size + 1) (by omega))
set_option maxHeartbeats 1600000 in
theorem Find_yes (b off cap : Nat) (V : Nat → Int) (S : Nat → Bool) (line : Int) (t : Bool) (w : World) (hb : b < w.heap.size) (hcap : 256 ≤ cap) (hl0 : 0 ≤ line) (hl1 : line ≤ 255) (hV : ∀ i, i < 256 → 0 ≤ V i ∧ V i ≤ 255)
    (h : ∀ i, i < 256 → ∀ j, j < 2 → w.cell? ⟨b, off + i * 2 + j, none⟩ = some (ByC V S i j)) :
    Calls Try.prog 10 #[.slice (some ⟨b, off, none⟩) 256 cap, .int .i64 line, .bool t] w fun e w' => ∃ ao n cap', e = .returned (.tuple #[.slice ao n cap', .bool (decide (8 < (fnd V line t 64).length)), .bool (secs S 64), .int .i64 0]) ∧
      n = min (fnd V line t 64).length 8 ∧ n ≤ cap' ∧ RowAt w' ao n 1 (fun i _ => .int .i64 ((fnd V line t 64).getD i 0)) ∧ Below w.heap.size w w' := by
  have HM : Hid (mayB 256 0 line = true) := by show mayB 256 0 line = true; unfold mayB; rw [decide_eq_true_iff]; omega
  obtain ⟨i0, hi, hz0, hz1, hz2⟩ := info_parts infoI
  go_enter Try.func10, Try.ntmps10
  go_wp2_with (go_at_call 23; refine (may_any _ _ _ _ _ _).mono ?_; rw [HM.out]; rintro e w' ⟨rfl, rfl⟩)
  go_loopw [10, 20] (fun v i wr => ∃ k : Nat, k ≤ 64 ∧ i = .int .i64 k ∧ FR w wr V S line t k v) (fun _ i _ => 64 - (intOf i).toNat)
  case atStart =>
    refine ⟨0, Nat.zero_le _, rfl, ⟨rfl, .inl ⟨rfl, rfl⟩⟩, ?_, ?_, ?_, ?_⟩
    · simp [go_sem, secs]
      exact alloc_last _ _ (by simp)
    · simp [go_sem]
    · simp [go_sem]
    · exact (((Below.refl _ _).alloc (Nat.le_refl _) _).alloc (by simp) _).alloc (by simp; omega) _
  case round =>
    obtain ⟨k, hk, rfl, hF⟩ := hrel
    by_cases hlt : k < 64
    · have c0 : wr.cell? ⟨b, off + 4 * k * 2, none⟩ = some (.int .u8 (V (4 * k))) := (hF.bl.cell (p := ⟨b, off + 4 * k * 2, none⟩) (by exact hb)).trans (h (4 * k) (by omega) 0 (by omega))
      have c1 : wr.cell? ⟨b, off + 4 * k * 2 + 1, none⟩ = some (.bool (S (4 * k))) := (hF.bl.cell (p := ⟨b, off + 4 * k * 2 + 1, none⟩) (by exact hb)).trans (h (4 * k) (by omega) 1 (by omega))
      have hv := hV (4 * k) (by omega)
      cases hon : onL (V (4 * k)) line t
      · have HON := hidI hon; clear hon
        go_wp2_with (first
          | (go_at_call 26; refine (one_any b off cap k _ hlt hcap).mono ?_; rintro e w' ⟨rfl, rfl⟩)
          | (go_at_call 24; refine (here_any b (off + 4 * k * 2) (V (4 * k)) line (S (4 * k)) (secs S k) t (w.heap.size + 1 + 1) w.heap.size (w.heap.size + 1) _ hv.1 hv.2 hl0 hl1 c0 c1 (by omega) (by omega) (by omega) (cell_of_one hF.S) (free_of_one hF.S) hF.L hF.T).mono ?_; rw [HON.out]; rintro e w' ⟨rfl, hQ⟩))
        go_roundw
        case rel => exact ⟨k + 1, by omega, by go_num, hF.miss hQ HON.out⟩
        case measure => simp [intOf]; omega
      · have HON := hidI hon; clear hon
        have hfl := fnd_le V line t k
        go_wp2_with (first
          | (go_at_call 26; refine (one_any b off cap k _ hlt hcap).mono ?_; rintro e w' ⟨rfl, rfl⟩)
          | (go_at_call 24; refine (here_any b (off + 4 * k * 2) (V (4 * k)) line (S (4 * k)) (secs S k) t (w.heap.size + 1 + 1) w.heap.size (w.heap.size + 1) _ hv.1 hv.2 hl0 hl1 c0 c1 (by omega) (by omega) (by omega) (cell_of_one hF.S) (free_of_one hF.S) hF.L hF.T).mono ?_; rw [HON.out]; rintro e w' ⟨rfl, hQ⟩)
          | (at_builtin; go_loud (refine wpList_append_own _ rfl _ _ 28 rfl (w.heap.size + 1 + 1 + 1) 3 i0 (.int .i64 0) 1 8 Try.underlying28 hi hz0 hz1 hz2 rfl (by decide) _ _ _ rfl ((hF.clos hQ).1.alloc _) ⟨w'.heap.size, 0, none⟩ 1 1 [.int .i64 (k : Int)] rfl rfl (cell_one_new _ _ _) (fun x hx => by simp at hx; subst hx; rfl) (by unfold maxLen; omega) (by omega) (by have := (hF.clos hQ).2.1; have := lt_of_block this; simp; omega) ?_); intro v' w1 hown' hgrow _))
        go_roundw
        case rel => exact ⟨k + 1, by omega, by go_num, hF.hit hQ HON.out hown' hgrow⟩
        case measure => simp [intOf]; omega
    · obtain rfl : k = 64 := by omega
      have hfl := fnd_le V line t 64
      have cS := cell_of_one hF.S
      obtain ⟨hlen, hv⟩ := hF.own
      have HL := hidI hlen; clear hlen
      obtain ⟨m, hm⟩ : ∃ m, m = (fnd V line t 64).length := ⟨_, rfl⟩
      rw [← hm] at hv hfl
      have HM2 := hidI hm; clear hm
      rcases hv with ⟨rfl, hn0⟩ | ⟨g, cp, cur, rfl, hg, hh, hnc, hcm, hcs, htk⟩
      · subst hn0
        go_wp2
        go_quiet (fail)
        go_wp2
        refine bodyPost_ret (v := .tuple #[.slice none 0 0, .bool false, .bool (secs S 64), .int .i64 0]) (by simp [results, Try.results10, go_sem]) rfl ⟨none, 0, 0, ?_, ?_, Nat.le_refl _, fun i hi => absurd hi (by omega), below_drewN hF.bl _⟩
        · rw [← HM2.out]; rfl
        · rw [← HM2.out]; rfl
      · have HC := hidI hcs; clear hcs
        have HT := hidI htk; clear htk
        have HH := hidI hh; clear hh
        rcases Nat.lt_or_ge 8 m with h8 | h8
        · have e8 : min (m : Int) 8 = 8 := by omega
          go_wp2
          go_quiet (fail)
          go_wp2
          have ho := hF.own
          rw [← HM2.out] at ho
          refine bodyPost_ret (v := .tuple #[.slice (some ⟨g, 0, none⟩) 8 8, .bool true, .bool (secs S 64), .int .i64 0]) (by simp [results, Try.results10, go_sem]; omega) rfl ⟨some ⟨g, 0, none⟩, 8, 8, ?_, ?_, Nat.le_refl _, own_row ho _ _ (by omega), below_drewN hF.bl _⟩
          · rw [← HM2.out]; simp; omega
          · rw [← HM2.out]; omega
        · have e8 : min (m : Int) 8 = m := by omega
          go_wp2
          go_quiet (fail)
          go_wp2
          have ho := hF.own
          rw [← HM2.out] at ho
          refine bodyPost_ret (v := .tuple #[.slice (some ⟨g, 0, none⟩) m m, .bool false, .bool (secs S 64), .int .i64 0]) (by simp [results, Try.results10, go_sem]; omega) rfl ⟨some ⟨g, 0, none⟩, m, m, ?_, ?_, Nat.le_refl _, own_row ho _ _ (by omega), below_drewN hF.bl _⟩
          · rw [← HM2.out]; simp; omega
          · rw [← HM2.out]; omega
end Go.Proofs.Ytdmcmlajpajaaaa
namespace Go.Proofs.Ytdmcmlajpajaaaa
open Go.RowKit Go.Sx
/-- What the loop of the document's Find keeps. -/
structure RR (w wr : World) (V : Nat → Int) (line : Int) (t : Bool) (k : Nat) (v : Value) : Prop where
  own : wr.ownsRow w.heap.size 3 1 v (min (fnd V line t k).length 8) (ints ((fnd V line t k).take 8))
  bl : Below w.heap.size w wr
theorem cell_one_at (w : World) (x : Value) (t : TypeId) (b : Nat) (hb : b = w.heap.size) : ∀ j u, [x][j]? = some u → (w.alloc (.cells #[x] t)).cell? ((⟨b, 0, none⟩ : Addr).add j) = some u := by
  subst hb; exact cell_one_new w x t
theorem own_shape {w : World} {base e s n : Nat} {v : Value} {xs : List Value} (h : w.ownsRow base e s v n xs) : ∃ ao cp, v = .slice ao n cp := by
  rcases h.2 with ⟨rfl, rfl⟩ | ⟨g, cap, cur, rfl, _⟩
  · exact ⟨_, _, rfl⟩
  · exact ⟨_, _, rfl⟩
theorem own_row' {w : World} {base : Nat} {v : Value} {l : List Nat} (h : w.ownsRow base 3 1 v (min l.length 8) (ints (l.take 8))) : ∃ ao cp, v = .slice ao (min l.length 8) cp ∧ min l.length 8 ≤ cp ∧ RowAt w ao (min l.length 8) 1 (fun i _ => .int .i64 (l.getD i 0)) := by
  rcases h.2 with ⟨rfl, h0⟩ | ⟨g, cap, cur, rfl, _, _, hc, _⟩
  · rw [h0]; exact ⟨_, _, rfl, Nat.le_refl _, fun i hi => absurd hi (by omega)⟩
  · refine ⟨_, _, rfl, hc, fun i hi => ?_⟩
    obtain ⟨b, off, e, hb, hcc⟩ := own_row h 0 _ (Nat.le_refl _) i hi
    refine ⟨b, off, e, hb, fun j hj => (hcc j hj).trans ?_⟩
    simp only [List.getD_eq_getElem?_getD]
    rw [List.getElem?_take_of_lt (by omega)]
theorem lines_quiet (t : Bool) (z : Int) (hz : z = hi t) (w : World) : Calls Try.prog 30 #[.bool t] w fun e w' => e = .returned (.int .i64 z) ∧ w' = w :=
  (lines_any t w).mono fun _ _ h => ⟨by rw [h.1, hz]; rfl, h.2.symm⟩
theorem RR.step {w wr w' : World} {V : Nat → Int} {line : Int} {t : Bool} {k : Nat} {v : Value} (h : RR w wr V line t k v) {o : Obj} {q : Nat} (e : w' = (wr.alloc o).drewN q) : w'.ownsRow w.heap.size 3 1 v (min (fnd V line t k).length 8) (ints ((fnd V line t k).take 8)) ∧ Below w.heap.size w w' := by
  subst e
  exact ⟨h.own.alloc o, below_drewN (h.bl.alloc h.bl.size o) q⟩
theorem RR.miss {w wr w' : World} {V : Nat → Int} {line : Int} {t : Bool} {k : Nat} {v : Value} (h : RR w wr V line t k v) {o : Obj} {q : Nat} (e : w' = (wr.alloc o).drewN q) (hm : onL (V (4 * k)) line t = false) : RR w w' V line t (k + 1) v := by
  have hs : fnd V line t (k + 1) = fnd V line t k := by rw [fnd_succ, hm]; simp
  exact ⟨by rw [hs]; exact (h.step e).1, (h.step e).2⟩
theorem more_miss {V : Nat → Int} {line : Int} {t : Bool} {k : Nat} (hm : onL (V (4 * k)) line t = false) : decide (8 < (fnd V line t (k + 1)).length) = decide (8 < (fnd V line t k).length) := by
  rw [show fnd V line t (k + 1) = fnd V line t k by rw [fnd_succ, hm]; simp]
theorem more_full {V : Nat → Int} {line : Int} {t : Bool} {k : Nat} (hm : onL (V (4 * k)) line t = true) (h8 : 8 ≤ (fnd V line t k).length) : decide (8 < (fnd V line t (k + 1)).length) = true := by
  rw [fnd_succ, hm]; simp; omega
theorem more_hit {V : Nat → Int} {line : Int} {t : Bool} {k : Nat} (hm : onL (V (4 * k)) line t = true) (h8 : (fnd V line t k).length < 8) : decide (8 < (fnd V line t (k + 1)).length) = decide (8 < (fnd V line t k).length) := by
  rw [fnd_succ, hm, decide_eq_decide]; simp; omega
theorem RR.full {w wr w' : World} {V : Nat → Int} {line : Int} {t : Bool} {k : Nat} {v : Value} (h : RR w wr V line t k v) {o : Obj} {q : Nat} (e : w' = (wr.alloc o).drewN q) (hm : onL (V (4 * k)) line t = true) (h8 : 8 ≤ (fnd V line t k).length) : RR w w' V line t (k + 1) v := by
  have hs : fnd V line t (k + 1) = fnd V line t k ++ [k] := by rw [fnd_succ, hm]; simp
  obtain ⟨a, b⟩ := h.step e
  refine ⟨?_, b⟩
  rw [hs, List.take_append_of_le_length h8, show min (fnd V line t k ++ [k]).length 8 = min (fnd V line t k).length 8 by simp; omega]
  exact a
theorem RR.hit {w wr w' w1 : World} {V : Nat → Int} {line : Int} {t : Bool} {k : Nat} {v v' : Value} (h : RR w wr V line t k v) {o o' : Obj} {q : Nat} (e : w' = (wr.alloc o).drewN q) (hm : onL (V (4 * k)) line t = true) (h8 : (fnd V line t k).length < 8)
    (ho : w1.ownsRow w.heap.size 3 1 v' (min (fnd V line t k).length 8 + 1) (ints ((fnd V line t k).take 8) ++ [.int .i64 (k : Int)])) {vb : Option Nat} (hg : (w'.alloc o').grownBy w1 vb) (hvb : vb = v.ownBlock) : RR w w1 V line t (k + 1) v' := by
  have hs : fnd V line t (k + 1) = fnd V line t k ++ [k] := by rw [fnd_succ, hm]; simp
  obtain ⟨a, b⟩ := h.step e
  subst hvb
  refine ⟨?_, (b.alloc b.size o').grown hg (by simp; have := b.size; omega) (fun j hj => (a.lt j hj).1)⟩
  rw [hs, List.take_of_length_le (by simp; omega), show min (fnd V line t k ++ [k]).length 8 = min (fnd V line t k).length 8 + 1 by simp; omega]
  rw [List.take_of_length_le (by omega)] at ho
  simpa [ints] using ho
set_option maxHeartbeats 1600000 in
theorem rFind_any (b off cap : Nat) (V : Nat → Int) (S : Nat → Bool) (line : Int) (t : Bool) (w : World) (hb : b < w.heap.size) (hl0 : 0 ≤ line) (hl1 : line ≤ 255) (hV : ∀ i, i < 256 → 0 ≤ V i ∧ V i ≤ 255)
    (h : ∀ i, i < 256 → ∀ j, j < 2 → w.cell? ⟨b, off + i * 2 + j, none⟩ = some (ByC V S i j)) :
    Calls Try.prog 15 #[.slice (some ⟨b, off, none⟩) 256 cap, .int .i64 line, .bool t] w fun e w' => ∃ ao n cap', e = .returned (.tuple #[.slice ao n cap', .bool (decide (8 < (fnd V line t 64).length)), .bool (secs S 64)]) ∧
      n = min (fnd V line t 64).length 8 ∧ n ≤ cap' ∧ RowAt w' ao n 1 (fun i _ => .int .i64 ((fnd V line t 64).getD i 0)) ∧ Below w.heap.size w w' := by
  obtain ⟨i0, hi0, hz0, hz1, hz2⟩ := info_parts infoI
  obtain ⟨z, hz⟩ : ∃ z, z = hi t := ⟨_, rfl⟩
  have hzz : 8 ≤ z ∧ z ≤ 16 := by rw [hz]; cases t <;> decide
  obtain ⟨hzl, hzh⟩ := hzz
  have HZ := hidI hz; clear hz
  go_enter Try.func15, Try.ntmps15
  go_wp2
  go_loopw [9, 10, 11, 12] (fun v m s i wr => ∃ k : Nat, k ≤ 64 ∧ i = .int .i64 k ∧ RR w wr V line t k v ∧ m = .bool (decide (8 < (fnd V line t k).length)) ∧ s = .bool (secs S k)) (fun _ _ _ i _ => 64 - (intOf i).toNat)
  case atStart => exact ⟨0, Nat.zero_le _, rfl, ⟨⟨rfl, .inl ⟨rfl, rfl⟩⟩, Below.refl _ _⟩, rfl, rfl⟩
  case round =>
    obtain ⟨k, hk, rfl, hF, rfl, rfl⟩ := hrel
    obtain ⟨mo, hmo⟩ : ∃ m, m = decide (8 < (fnd V line t k).length) := ⟨_, rfl⟩
    rw [← hmo]
    have HMO := hidI hmo; clear hmo
    obtain ⟨sk, hsk⟩ : ∃ m, m = secs S k := ⟨_, rfl⟩
    rw [← hsk]
    have hs2 := secs_succ S k
    rw [← hsk] at hs2
    have HSK := hidI hs2; clear hs2
    have HS0 := hidI hsk; clear hsk
    by_cases hlt : k < 64
    · have c0 : wr.cell? ⟨b, off + 4 * k * 2, none⟩ = some (.int .u8 (V (4 * k))) := (hF.bl.cell (p := ⟨b, off + 4 * k * 2, none⟩) (by exact hb)).trans (h (4 * k) (by omega) 0 (by omega))
      have c1 : wr.cell? ⟨b, off + 4 * k * 2 + 1, none⟩ = some (.bool (S (4 * k))) := (hF.bl.cell (p := ⟨b, off + 4 * k * 2 + 1, none⟩) (by exact hb)).trans (h (4 * k) (by omega) 1 (by omega))
      obtain ⟨hv0, hv1⟩ := hV (4 * k) (by omega)
      have hfl := fnd_le V line t k
      by_cases hy : V (4 * k) ≤ line
      · by_cases hh : line < V (4 * k) + z
        · have HON : Hid (onL (V (4 * k)) line t = true) := by show _ = true; unfold onL; rw [decide_eq_true_iff, ← HZ.out]; omega
          obtain ⟨ao, cp, hv⟩ := own_shape hF.own
          subst hv
          have HU := hidI (Nat.min_le_left (fnd V line t k).length 8)
          obtain ⟨m, hm⟩ : ∃ m, m = min (fnd V line t k).length 8 := ⟨_, rfl⟩
          have hst := fun (o : Obj) (q : Nat) => (hF.step (o := o) (q := q) rfl).1
          have hm8 : m ≤ 8 := by omega
          have hml : m = 8 ∨ (m < 8 ∧ (fnd V line t k).length < 8) := by omega
          have hml' : m = 8 → 8 ≤ (fnd V line t k).length := by omega
          rw [← hm] at hst
          have HST := hidI hst; clear hst
          rw [← hm]
          have HM := hidI hm; clear hm
          rcases hml with hml | ⟨hml, hml2⟩
          · have HFULL := hidI (hml' hml)
            clear hml'
            cases hsx : S (4 * k)
            all_goals
              have HSX := hidI hsx
              rw [hsx] at c1
              clear hsx
              go_wp2
              go_quiet ((go_at_call 30; exact Calls.quiet_of_same (lines_quiet _ _ HZ.out _)))
              go_wp2
              go_roundw
              case rel => exact ⟨k + 1, by omega, by go_num, by rw [HM.out] ; exact hF.full rfl HON.out HFULL.out, by rw [more_full HON.out HFULL.out], by rw [HSK.out, HSX.out]; simp⟩
              case measure => simp [intOf]; omega
          · clear hml'
            have H2 := hidI hml2
            clear hml2
            cases hsx : S (4 * k)
            all_goals
              have HSX := hidI hsx
              rw [hsx] at c1
              clear hsx
              go_wp2
              go_quiet ((go_at_call 30; exact Calls.quiet_of_same (lines_quiet _ _ HZ.out _)))
              go_wp2_with (at_builtin; go_loud (refine wpList_append_own _ rfl _ _ 28 rfl w.heap.size 3 i0 (.int .i64 0) 1 8 Try.underlying28 hi0 hz0 hz1 hz2 rfl (by decide) _ _ _ rfl ((HST.out _ _).alloc _) ⟨wr.heap.size + 1, 0, none⟩ 1 1 [.int .i64 (k : Int)] rfl rfl (cell_one_at _ _ _ _ (by simp)) (fun x hx => by simp at hx; subst hx; rfl) (by unfold maxLen; omega) (by omega) (by have := hF.bl.size; simp; omega) ?_); intro v' w1 hown' hgrow _)
              go_roundw
              case rel => exact ⟨k + 1, by omega, by go_num, hF.hit rfl HON.out H2.out (by rw [← HM.out]; simpa only [← HM.out] using hown') hgrow (by cases ao <;> rfl), by rw [more_hit HON.out H2.out, ← HMO.out], by rw [HSK.out, HSX.out]; simp⟩
              case measure => simp [intOf]; omega
        · have HON : Hid (onL (V (4 * k)) line t = false) := by show _ = false; unfold onL; rw [decide_eq_false_iff_not, ← HZ.out]; omega
          cases hsx : S (4 * k)
          all_goals
            have HSX := hidI hsx
            rw [hsx] at c1
            clear hsx
            go_wp2
            go_quiet ((go_at_call 30; exact Calls.quiet_of_same (lines_quiet _ _ HZ.out _)))
            go_wp2
            go_roundw
            case rel => 
              exact ⟨k + 1, by omega, by go_num, hF.miss rfl HON.out, by rw [more_miss HON.out, ← HMO.out], by rw [HSK.out, HSX.out]; simp⟩
            case measure => simp [intOf]; omega
      · have hy' : decide (V (4 * k) ≤ line) = false := by simpa using hy
        have HON : Hid (onL (V (4 * k)) line t = false) := by show _ = false; unfold onL; rw [decide_eq_false_iff_not, ← HZ.out]; omega
        cases hsx : S (4 * k)
        all_goals
          have HSX := hidI hsx
          rw [hsx] at c1
          clear hsx
          go_wp2
          go_quiet ((go_at_call 30; exact Calls.quiet_of_same (lines_quiet _ _ HZ.out _)))
          go_wp2
          go_roundw
          case rel =>
            exact ⟨k + 1, by omega, by go_num, hF.miss rfl HON.out, by rw [more_miss HON.out, ← HMO.out], by rw [HSK.out, HSX.out]; simp⟩
          case measure => simp [intOf]; omega
    · obtain rfl : k = 64 := by omega
      have hfl := fnd_le V line t 64
      have hs := own_row' hF.own
      go_wp2
      obtain ⟨ao, cp, hv, hle, hr⟩ := hs
      subst hv
      refine bodyPost_ret (v := .tuple #[.slice ao (min (fnd V line t 64).length 8) cp, .bool mo, .bool sk]) (by simp [results, Try.results15, go_sem]) rfl ⟨ao, _, cp, by rw [← HMO.out, ← HS0.out], rfl, hle, hr, hF.bl⟩
end Go.Proofs.Ytdmcmlajpajaaaa
namespace Go.Proofs.Ytdmcmlajpajaaaa
open Go.RowKit Go.Sx
theorem any_some (b off : Nat) (n cap : Nat) (V : Nat → Int) (S : Nat → Bool) (w : World) (hb : b < w.heap.size) (hl : n ≤ 1000000) (h : ∀ i, i < n → ∀ j, j < 2 → w.cell? ⟨b, off + i * 2 + j, none⟩ = some (ByC V S i j)) :
    Calls Try.prog 28 #[.slice (some ⟨b, off, none⟩) n cap] w fun e w' => e = .returned (.bool ((List.range n).any S)) ∧ Below w.heap.size w w' := by
  go_enter Try.func28, Try.ntmps28
  go_wp2
  go_loopw [7] (fun i wr => ∃ k : Nat, k ≤ n ∧ i = .int .i64 k ∧ (List.range k).any S = false ∧ Below w.heap.size w wr) (fun i _ => n - (intOf i).toNat)
  case atStart => exact ⟨0, Nat.zero_le _, rfl, rfl, Below.refl _ _⟩
  case round =>
    obtain ⟨k, hk, rfl, ht0, hbl⟩ := hrel
    have ht := hidI ht0; clear ht0
    have hcv : k < n → wr.cell? ⟨b, off + k * 2, none⟩ = some (.int .u8 (V k)) := fun hlt => (hbl.cell (p := ⟨b, off + k * 2, none⟩) (by exact hb)).trans (h k hlt 0 (by omega))
    have hcs : k < n → wr.cell? ⟨b, off + k * 2 + 1, none⟩ = some (.bool (S k)) := fun hlt => (hbl.cell (p := ⟨b, off + k * 2 + 1, none⟩) (by exact hb)).trans (h k hlt 1 (by omega))
    go_wp2
    · go_ret
      have hlt : k < n := by assumption
      have hs : S k = true := by assumption
      exact ⟨ret_bool ((any_succ hlt ht.out).1 hs).symm, hbl.alloc hbl.size _⟩
    · go_roundw
      have hlt : k < n := by assumption
      have hs : S k = false := by assumption
      case rel => exact ⟨k + 1, by omega, by go_num, (any_succ hlt ht.out).2 hs, hbl.alloc hbl.size _⟩
      case measure => simp [intOf]; omega
    · go_ret
      have : k = n := by omega
      subst this
      exact ⟨ret_bool ht.out.symm, hbl⟩
def rowS (y lk line : Int) (tall : Bool) : Int := if 128 ≤ lk then hi tall - 1 - (line - y + 256) % hi tall else (line - y + 256) % hi tall
/-- Where a sprite's row is. -/
def adr (y ti lk line : Int) (tall table : Bool) : Int :=
  if tall then ti % 2 * 4096 + 16 * (ti - ti % 2) + (if 8 ≤ rowS y lk line tall then rowS y lk line tall + 8 else rowS y lk line tall)
  else (if table then 4096 else 0) + 16 * ti + rowS y lk line tall
def tallX (ti r : Int) : Int := bits BinOp.or IntKind.u16 (bits BinOp.andNot IntKind.u16 (ti * 16) 16) (IntKind.u16.wrap (IntKind.u16.wrap (bits BinOp.and IntKind.i64 r 8) * 2))
theorem tall_bits (ti r : Int) (h0 : 0 ≤ ti) (h1 : ti ≤ 255) (r0 : 0 ≤ r) (r1 : r < 16) :
    (0 < bits BinOp.and IntKind.u16 (ti * 16) 16 → bits BinOp.or IntKind.u16 (bits BinOp.or IntKind.u16 (tallX ti r) 4096) (IntKind.u16.wrap (bits BinOp.and IntKind.i64 r 7)) = ti % 2 * 4096 + 16 * (ti - ti % 2) + (if 8 ≤ r then r + 8 else r)) ∧
    (bits BinOp.and IntKind.u16 (ti * 16) 16 ≤ 0 → bits BinOp.or IntKind.u16 (tallX ti r) (IntKind.u16.wrap (bits BinOp.and IntKind.i64 r 7)) = ti % 2 * 4096 + 16 * (ti - ti % 2) + (if 8 ≤ r then r + 8 else r)) := by
  have key : ∀ a : Fin 256, ∀ c : Fin 16, (0 < bits BinOp.and IntKind.u16 (((a.val : Nat) : Int) * 16) 16 → bits BinOp.or IntKind.u16 (bits BinOp.or IntKind.u16 (tallX (a.val : Nat) (c.val : Nat)) 4096) (IntKind.u16.wrap (bits BinOp.and IntKind.i64 ((c.val : Nat) : Int) 7)) = ((a.val : Nat) : Int) % 2 * 4096 + 16 * (((a.val : Nat) : Int) - ((a.val : Nat) : Int) % 2) + (if 8 ≤ ((c.val : Nat) : Int) then ((c.val : Nat) : Int) + 8 else ((c.val : Nat) : Int))) ∧
    (bits BinOp.and IntKind.u16 (((a.val : Nat) : Int) * 16) 16 ≤ 0 → bits BinOp.or IntKind.u16 (tallX (a.val : Nat) (c.val : Nat)) (IntKind.u16.wrap (bits BinOp.and IntKind.i64 ((c.val : Nat) : Int) 7)) = ((a.val : Nat) : Int) % 2 * 4096 + 16 * (((a.val : Nat) : Int) - ((a.val : Nat) : Int) % 2) + (if 8 ≤ ((c.val : Nat) : Int) then ((c.val : Nat) : Int) + 8 else ((c.val : Nat) : Int))) := by decide +kernel
  have := key ⟨ti.toNat, by omega⟩ ⟨r.toNat, by omega⟩
  simp only [Int.toNat_of_nonneg h0, Int.toNat_of_nonneg r0] at this
  exact this
theorem low_bits (ti r : Int) (h0 : 0 ≤ ti) (h1 : ti ≤ 255) (r0 : 0 ≤ r) (r1 : r < 8) :
    bits BinOp.or IntKind.u16 (bits BinOp.or IntKind.u16 (ti * 16) 4096) (IntKind.u16.wrap (bits BinOp.and IntKind.i64 r 7)) = 4096 + 16 * ti + r ∧ bits BinOp.or IntKind.u16 (ti * 16) (IntKind.u16.wrap (bits BinOp.and IntKind.i64 r 7)) = 0 + 16 * ti + r := by
  have key : ∀ a : Fin 256, ∀ c : Fin 8, bits BinOp.or IntKind.u16 (bits BinOp.or IntKind.u16 (((a.val : Nat) : Int) * 16) 4096) (IntKind.u16.wrap (bits BinOp.and IntKind.i64 ((c.val : Nat) : Int) 7)) = 4096 + 16 * ((a.val : Nat) : Int) + ((c.val : Nat) : Int) ∧
    bits BinOp.or IntKind.u16 (((a.val : Nat) : Int) * 16) (IntKind.u16.wrap (bits BinOp.and IntKind.i64 ((c.val : Nat) : Int) 7)) = 0 + 16 * ((a.val : Nat) : Int) + ((c.val : Nat) : Int) := by decide +kernel
  have := key ⟨ti.toNat, by omega⟩ ⟨r.toNat, by omega⟩
  simp only [Int.toNat_of_nonneg h0, Int.toNat_of_nonneg r0] at this
  exact this
theorem like_bits (lk : Int) (h0 : 0 ≤ lk) (h1 : lk ≤ 255) : (0 < bits BinOp.and IntKind.u8 lk 128 ↔ 128 ≤ lk) := by
  have key : ∀ a : Fin 256, (0 < bits BinOp.and IntKind.u8 ((a.val : Nat) : Int) 128 ↔ 128 ≤ ((a.val : Nat) : Int)) := by decide +kernel
  have := key ⟨lk.toNat, by omega⟩
  simp only [Int.toNat_of_nonneg h0] at this
  exact this
theorem adr_tall {y ti lk line r : Int} {table : Bool} (h0 : 0 ≤ ti) (h1 : ti ≤ 255) (hr : r = rowS y lk line true) :
    (0 < bits BinOp.and IntKind.u16 (ti * 16) 16 → bits BinOp.or IntKind.u16 (bits BinOp.or IntKind.u16 (tallX ti r) 4096) (IntKind.u16.wrap (bits BinOp.and IntKind.i64 r 7)) = adr y ti lk line true table) ∧
    (bits BinOp.and IntKind.u16 (ti * 16) 16 ≤ 0 → bits BinOp.or IntKind.u16 (tallX ti r) (IntKind.u16.wrap (bits BinOp.and IntKind.i64 r 7)) = adr y ti lk line true table) := by
  have hb : 0 ≤ r ∧ r < 16 := by rw [hr]; unfold rowS hi; simp only [if_true]; split <;> omega
  have := tall_bits ti r h0 h1 hb.1 hb.2
  unfold adr
  rw [if_pos rfl, ← hr]
  exact this
theorem adr_low {y ti lk line r : Int} (h0 : 0 ≤ ti) (h1 : ti ≤ 255) (hr : r = rowS y lk line false) :
    bits BinOp.or IntKind.u16 (bits BinOp.or IntKind.u16 (ti * 16) 4096) (IntKind.u16.wrap (bits BinOp.and IntKind.i64 r 7)) = adr y ti lk line false true ∧ bits BinOp.or IntKind.u16 (ti * 16) (IntKind.u16.wrap (bits BinOp.and IntKind.i64 r 7)) = adr y ti lk line false false := by
  have hb : 0 ≤ r ∧ r < 8 := by rw [hr]; unfold rowS hi; simp only [Bool.false_eq_true, if_false]; split <;> omega
  have := low_bits ti r h0 h1 hb.1 hb.2
  unfold adr
  simp only [Bool.false_eq_true, if_false, if_true]
  rw [← hr]
  exact this
theorem ret_adr {a b : Int} {c d : Bool} (h : a = b) (h' : c = d) : Ending.returned (.tuple #[.int .u16 a, .bool c, .int .i64 0]) = Ending.returned (.tuple #[.int .u16 b, .bool d, .int .i64 0]) := by rw [h, h']
set_option maxHeartbeats 800000 in
theorem adr_walk (b off cap : Nat) (i : Nat) (y ti lk line : Int) (s0 s1 s2 : Bool) (tall table : Bool) (w : World) (hb : b < w.heap.size) (hi64 : i < 64) (hcap : 256 ≤ cap) (hl0 : 0 ≤ line) (hl1 : line ≤ 255)
    (hy0 : 0 ≤ y) (hy1 : y ≤ 255) (ht0 : 0 ≤ ti) (ht1 : ti ≤ 255) (hk0 : 0 ≤ lk) (hk1 : lk ≤ 255)
    (c0 : w.cell? ⟨b, off + 4 * i * 2, none⟩ = some (.int .u8 y)) (c1 : w.cell? ⟨b, off + 4 * i * 2 + 1, none⟩ = some (.bool s0)) (c2 : w.cell? ⟨b, off + 4 * i * 2 + 2, none⟩ = some (.int .u8 ti)) (c3 : w.cell? ⟨b, off + 4 * i * 2 + 3, none⟩ = some (.bool s1))
    (c4 : w.cell? ⟨b, off + 4 * i * 2 + 4, none⟩ = some (.int .u8 lk)) (c5 : w.cell? ⟨b, off + 4 * i * 2 + 5, none⟩ = some (.bool s2)) :
    Calls Try.prog 13 #[.slice (some ⟨b, off, none⟩) 256 cap, .int .i64 i, .int .i64 line, .bool tall, .bool table] w fun e w' => e = .returned (.tuple #[.int .u16 (adr y ti lk line tall table), .bool (s0 || (s1 || s2)), .int .i64 0]) ∧ Below w.heap.size w w' := by
  have HM : Hid (mayB 256 i line = true) := by show mayB 256 i line = true; unfold mayB; rw [decide_eq_true_iff]; omega
  have hany := any_some b (off + 4 * i * 2) 3 4 (fun j => if j = 0 then y else if j = 1 then ti else lk) (fun j => if j = 0 then s0 else if j = 1 then s1 else s2) w hb (by omega) (fun j hj q hq => by
    match j, hj, q, hq with
    | 0, _, 0, _ => exact c0
    | 0, _, 1, _ => exact c1
    | 1, _, 0, _ => exact c2
    | 1, _, 1, _ => exact c3
    | 2, _, 0, _ => exact c4
    | 2, _, 1, _ => exact c5)
  have HANY := hidI hany; clear hany
  go_enter Try.func13, Try.ntmps13
  go_wp2_with (first
    | (go_at_call 23; refine (may_any _ _ _ _ _ _).mono ?_; rw [HM.out]; rintro e w' ⟨rfl, rfl⟩)
    | (go_at_call 26; refine (one_any b off cap i _ hi64 hcap).mono ?_; rintro e w' ⟨rfl, rfl⟩)
    | (go_at_call 25; refine (high_any _ _).mono ?_; rintro e w' ⟨rfl, rfl⟩)
    | (go_at_call 28; refine HANY.out.mono ?_; rintro e w' ⟨rfl, hbw⟩))
  all_goals
    have HL := like_bits lk hk0 hk1
    go_ret3
  · have hp : 0 < bits BinOp.and IntKind.u8 lk 128 := by assumption
    obtain rfl : tall = true := by assumption
    exact ⟨ret_adr ((adr_tall ht0 ht1 (by unfold rowS hi wrap64; rw [if_pos (HL.1 hp)]; simp only [if_true]; omega)).1 (by assumption)) rfl, hbw⟩
  · have hp : 0 < bits BinOp.and IntKind.u8 lk 128 := by assumption
    obtain rfl : tall = true := by assumption
    exact ⟨ret_adr ((adr_tall ht0 ht1 (by unfold rowS hi wrap64; rw [if_pos (HL.1 hp)]; simp only [if_true]; omega)).2 (by assumption)) rfl, hbw⟩
  · have hp : 0 < bits BinOp.and IntKind.u8 lk 128 := by assumption
    obtain rfl : tall = false := by assumption
    obtain rfl : table = true := by assumption
    exact ⟨ret_adr (adr_low ht0 ht1 (by unfold rowS hi wrap64; rw [if_pos (HL.1 hp)]; simp only [Bool.false_eq_true, if_false]; omega)).1 rfl, hbw⟩
  · have hp : 0 < bits BinOp.and IntKind.u8 lk 128 := by assumption
    obtain rfl : tall = false := by assumption
    obtain rfl : table = false := by assumption
    exact ⟨ret_adr (adr_low ht0 ht1 (by unfold rowS hi wrap64; rw [if_pos (HL.1 hp)]; simp only [Bool.false_eq_true, if_false]; omega)).2 rfl, hbw⟩
  · have hp : bits BinOp.and IntKind.u8 lk 128 ≤ 0 := by assumption
    obtain rfl : tall = true := by assumption
    exact ⟨ret_adr ((adr_tall ht0 ht1 (by unfold rowS hi; rw [if_neg (by omega)]; rfl)).1 (by assumption)) rfl, hbw⟩
  · have hp : bits BinOp.and IntKind.u8 lk 128 ≤ 0 := by assumption
    obtain rfl : tall = true := by assumption
    exact ⟨ret_adr ((adr_tall ht0 ht1 (by unfold rowS hi; rw [if_neg (by omega)]; rfl)).2 (by assumption)) rfl, hbw⟩
  · have hp : bits BinOp.and IntKind.u8 lk 128 ≤ 0 := by assumption
    obtain rfl : tall = false := by assumption
    obtain rfl : table = true := by assumption
    exact ⟨ret_adr (adr_low ht0 ht1 (by unfold rowS hi; rw [if_neg (by omega)]; rfl)).1 rfl, hbw⟩
  · have hp : bits BinOp.and IntKind.u8 lk 128 ≤ 0 := by assumption
    obtain rfl : tall = false := by assumption
    obtain rfl : table = false := by assumption
    exact ⟨ret_adr (adr_low ht0 ht1 (by unfold rowS hi; rw [if_neg (by omega)]; rfl)).2 rfl, hbw⟩
end Go.Proofs.Ytdmcmlajpajaaaa
namespace Go.Proofs.Ytdmcmlajpajaaaa
open Go.RowKit Go.Sx
theorem infoB : (Try.prog.info? 24).map (fun i => (i.zero, i.size, i.bytes)) = some (some (.agg #[.int .u8 0, .bool false]), 2, 2) := by kernel_rfl
/-- Bytes that the call has made. -/
def OwnB (w : World) (base g : Nat) (V : Nat → Int) (S : Nat → Bool) : Prop := ∃ xs : List Value, w.ownsRow base 24 2 (.slice (some ⟨g, 0, none⟩) 256 256) 256 xs ∧ ∀ i, i < 256 → ∀ j, j < 2 → xs[i * 2 + j]? = some (ByC V S i j)
theorem OwnB.cell {w : World} {base g : Nat} {V : Nat → Int} {S : Nat → Bool} (h : OwnB w base g V S) {i j : Nat} (hi : i < 256) (hj : j < 2) : w.cell? ⟨g, i * 2 + j, none⟩ = some (ByC V S i j) := by
  obtain ⟨xs, ho, hx⟩ := h
  rw [ho.cellAt _ (by omega)]
  exact hx i hi j hj
theorem OwnB.frozen {w : World} {base g : Nat} {V : Nat → Int} {S : Nat → Bool} (h : OwnB w base g V S) (o : Nat) : w.frozen? ⟨g, o, none⟩ = false := by
  obtain ⟨xs, ho, hx⟩ := h
  exact ho.frozenAt o
theorem OwnB.lt {w : World} {base g : Nat} {V : Nat → Int} {S : Nat → Bool} (h : OwnB w base g V S) : base ≤ g ∧ g < w.heap.size := by
  obtain ⟨xs, ho, hx⟩ := h
  exact ho.lt g rfl
theorem OwnB.same {w w' : World} {base g : Nat} {V : Nat → Int} {S : Nat → Bool} (h : OwnB w base g V S) (e : w'.heap[g]? = w.heap[g]?) : OwnB w' base g V S := by
  obtain ⟨xs, ho, hx⟩ := h
  refine ⟨xs, ⟨ho.1, ?_⟩, hx⟩
  rcases ho.2 with ⟨h', _⟩ | ⟨g', cap', cur, h', r⟩
  · cases h'
  · cases h'
    exact .inr ⟨g, 256, cur, rfl, r.1, by rw [e]; exact r.2.1, r.2.2⟩
theorem OwnB.store {w : World} {base g : Nat} {V : Nat → Int} {S : Nat → Bool} (h : OwnB w base g V S) {k : Nat} (x : Int) (hk : k < 256) : OwnB (w.setCell ⟨g, k * 2, none⟩ (.int .u8 x)) base g (fun i => if i = k then x else V i) S := by
  obtain ⟨xs, ho, hx⟩ := h
  refine ⟨_, (ho.stored (k * 2) (.int .u8 x)).1, fun i hi j hj => ?_⟩
  have hl : xs.length = 512 := ho.1
  rw [List.getElem?_set]
  split
  · next e =>
    obtain rfl : i = k := by omega
    obtain rfl : j = 0 := by omega
    simp [ByC, hl]; omega
  · next e =>
    rw [hx i hi j hj]
    unfold ByC
    by_cases hj0 : j = 0
    · subst hj0
      have : i ≠ k := fun e' => e (by omega)
      simp [this]
    · simp [hj0]
theorem OwnB.vals {w : World} {base g : Nat} {V V' : Nat → Int} {S S' : Nat → Bool} (h : OwnB w base g V S) (e : ∀ i, i < 256 → V i = V' i ∧ S i = S' i) : OwnB w base g V' S' := by
  obtain ⟨xs, ho, hx⟩ := h
  refine ⟨xs, ho, fun i hi j hj => (hx i hi j hj).trans ?_⟩
  unfold ByC
  rw [(e i hi).1, (e i hi).2]
theorem step_val (i k : Nat) : (if i = k then (239 : Int) else if i < k then 239 else 0) = if i < k + 1 then 239 else 0 := by
  by_cases h : i = k
  · rw [if_pos h, if_pos (by omega)]
  · rw [if_neg h]
    by_cases h' : i < k
    · rw [if_pos h', if_pos (by omega)]
    · rw [if_neg h', if_neg (by omega)]
set_option maxRecDepth 100000 in
theorem none_any (w : World) : Calls Try.prog 27 #[] w fun e w' => ∃ g, e = .returned (.slice (some ⟨g, 0, none⟩) 256 256) ∧ OwnB w' w.heap.size g (fun _ => 239) (fun _ => false) ∧ Below w.heap.size w w' := by
  obtain ⟨i0, hi, hz0, hz1, hz2⟩ := info_parts infoB
  go_enter Try.func27, Try.ntmps27
  go_wp2_with (at_make; go_loud (refine wpList_make_full _ rfl _ _ 22 rfl w.heap.size 24 i0 (.agg #[.int .u8 0, .bool false]) 2 Try.underlying22 hi hz0 hz1 .i64 .i64 256 256 256 rfl rfl rfl rfl (by rw [hz2]; decide) (by decide) (Nat.le_refl _) ?_); intro w1 hown hgrow)
  have hz : OwnB w1 w.heap.size w.heap.size (fun i => if i < 0 then 239 else 0) (fun _ => false) := ⟨_, hown, fun i hi j hj => by
    rw [Array.getElem?_toList]
    simp only [madeCells, Array.getElem?_map, Array.getElem?_range]
    rw [if_pos (by omega)]
    match j, hj with
    | 0, _ => simp [ByC, Value.cells]
    | 1, _ => simp [ByC, Value.cells]⟩
  have hb1 : Below w.heap.size w w1 := (Below.refl _ _).grown hgrow (Nat.le_refl _) (fun k hk => by cases hk)
  clear hown hgrow
  go_loopw [2] (fun i wr => ∃ k : Nat, k ≤ 256 ∧ i = .int .i64 k ∧ OwnB wr w.heap.size w.heap.size (fun i => if i < k then 239 else 0) (fun _ => false) ∧ Below w.heap.size w wr) (fun i _ => 256 - (intOf i).toNat)
  case atStart => exact ⟨0, Nat.zero_le _, rfl, hz, hb1⟩
  case round =>
    obtain ⟨k, hk, rfl, hO, hbl⟩ := hrel
    by_cases hlt : k < 256
    · have c0 : wr.cell? ⟨w.heap.size, k * 2, none⟩ = some _ := hO.cell hlt (j := 0) (by omega)
      have f0 := hO.frozen (k * 2)
      go_wp2
      go_roundw
      case rel => exact ⟨k + 1, by omega, by go_num, (hO.store 239 hlt).vals (fun i hi => ⟨step_val i k, rfl⟩), hbl.setCell (Nat.le_refl _) _⟩
      case measure => simp [intOf]; omega
    · go_wp2
      go_ret
      exact ⟨_, rfl, hO.vals (fun i hi => ⟨if_pos (by omega), rfl⟩), hbl⟩
end Go.Proofs.Ytdmcmlajpajaaaa
namespace Go.Proofs.Ytdmcmlajpajaaaa
open Go.RowKit Go.Sx
/-- A row of bytes that the call has made, as functions read it. -/
theorem OwnB.rows {w : World} {base g : Nat} {V : Nat → Int} {S : Nat → Bool} (h : OwnB w base g V S) : ∀ i, i < 256 → ∀ j, j < 2 → w.cell? ⟨g, 0 + i * 2 + j, none⟩ = some (ByC V S i j) := fun i hi j hj => by rw [Nat.zero_add]; exact h.cell hi hj
theorem OwnB.below {w w' : World} {base g : Nat} {V : Nat → Int} {S : Nat → Bool} (h : OwnB w base g V S) (hb : Below w.heap.size w w') : OwnB w' base g V S := h.same (hb.block g h.lt.2)
def vA (i : Nat) : Int := if i = 2 then 0 else if i = 1 then 3 else if i = 0 then 10 else 239
def sA (_ : Nat) : Bool := false
theorem vA_in (i : Nat) (_ : i < 256) : 0 ≤ vA i ∧ vA i ≤ 255 := by
  unfold vA
  split
  · decide
  · split
    · decide
    · split <;> decide
theorem ownA {w : World} {base g : Nat} (h : OwnB w base g (fun _ => 239) (fun _ => false)) : OwnB (((w.setCell ⟨g, 0, none⟩ (.int .u8 10)).setCell ⟨g, 2, none⟩ (.int .u8 3)).setCell ⟨g, 4, none⟩ (.int .u8 0)) base g vA sA := by
  have := ((h.store (k := 0) 10 (by omega)).store (k := 1) 3 (by omega)).store (k := 2) 0 (by omega)
  exact this.vals fun i _ => ⟨rfl, rfl⟩
theorem Find_A (g base : Nat) (line : Int) (k : Nat) (w : World) (h : OwnB w base g vA sA) (hl0 : 0 ≤ line) (hl1 : line ≤ 255) (hk : (fnd vA line false 64).length = k) (hk8 : k ≤ 8) :
    Calls Try.prog 10 #[.slice (some ⟨g, 0, none⟩) 256 256, .int .i64 line, .bool false] w fun e w' => (∃ ao cap', e = .returned (.tuple #[.slice ao k cap', .bool false, .bool false, .int .i64 0])) ∧ OwnB w' base g vA sA ∧ Below w.heap.size w w' := by
  refine (Find_yes g 0 256 vA sA line false w h.lt.2 (Nat.le_refl _) hl0 hl1 vA_in h.rows).mono ?_
  rintro e w' ⟨ao, n, cap', rfl, hn, _, _, hb⟩
  refine ⟨⟨ao, cap', ?_⟩, h.below hb, hb⟩
  rw [hn, hk, Nat.min_eq_left hk8, show secs sA 64 = false by decide +kernel, decide_eq_false (by omega)]
theorem Adr_A (g base : Nat) (w : World) (h : OwnB w base g vA sA) :
    Calls Try.prog 13 #[.slice (some ⟨g, 0, none⟩) 256 256, .int .i64 0, .int .i64 12, .bool true, .bool false] w fun e w' => e = .returned (.tuple #[.int .u16 4130, .bool false, .int .i64 0]) ∧ Below w.heap.size w w' := by
  have c := h.rows
  exact adr_walk g 0 256 0 10 3 0 12 false false false true false w h.lt.2 (by decide) (Nat.le_refl _) (by decide) (by decide) (by decide) (by decide) (by decide) (by decide) (by decide) (by decide)
    (c 0 (by decide) 0 (by decide)) (c 0 (by decide) 1 (by decide)) (c 1 (by decide) 0 (by decide)) (c 1 (by decide) 1 (by decide)) (c 2 (by decide) 0 (by decide)) (c 2 (by decide) 1 (by decide))
set_option maxRecDepth 100000 in
set_option maxHeartbeats 1600000 in
theorem awake_any (w : World) : Calls Try.prog 11 #[] w fun e w' => e = .returned (.bool true) ∧ Below w.heap.size w w' := by
  go_enter Try.func11, Try.ntmps11
  go_wp2_with fail
  refine (none_any _).mono ?_
  rintro e w1 ⟨g, rfl, hO, hb1⟩
  have c0 : w1.cell? ⟨g, 0, none⟩ = some (.int .u8 239) := hO.cell (i := 0) (j := 0) (by omega) (by omega)
  have c1 : w1.cell? ⟨g, 2, none⟩ = some (.int .u8 239) := hO.cell (i := 1) (j := 0) (by omega) (by omega)
  have c2 : w1.cell? ⟨g, 4, none⟩ = some (.int .u8 239) := hO.cell (i := 2) (j := 0) (by omega) (by omega)
  have f0 := hO.frozen 0
  have f1 := hO.frozen 2
  have f2 := hO.frozen 4
  trace "1"
  go_wp2_with fail
  trace "2"
  refine (Find_A _ _ 10 1 _ (ownA hO) (by decide) (by decide) (by decide +kernel) (by decide)).mono ?_
  trace "3"
  rintro e w2 ⟨⟨ao, cp, rfl⟩, hO2, hb2⟩
  go_wp2_with fail
  trace "4"
  refine (Find_A _ _ 17 1 _ hO2 (by decide) (by decide) (by decide +kernel) (by decide)).mono ?_
  rintro e w3 ⟨⟨ao3, cp3, rfl⟩, hO3, hb3⟩
  go_wp2_with fail
  trace "5"
  refine (Find_A _ _ 18 0 _ hO3 (by decide) (by decide) (by decide +kernel) (by decide)).mono ?_
  rintro e w4 ⟨⟨ao4, cp4, rfl⟩, hO4, hb4⟩
  go_wp2_with fail
  trace "6"
  refine (Adr_A _ _ _ hO4).mono ?_
  rintro e w5 ⟨rfl, hb5⟩
  go_wp2_with fail
  trace "7"
  refine (Dot_zero _ _ _ _).mono ?_
  rintro e w6 ⟨rfl, hb6⟩
  go_wp2
  trace "8"
  go_ret
  refine ⟨rfl, ?_⟩
  have hg := hO.lt.1
  have a1 : Below w.heap.size w (((w1.setCell ⟨g, 0, none⟩ (.int .u8 10)).setCell ⟨g, 2, none⟩ (.int .u8 3)).setCell ⟨g, 4, none⟩ (.int .u8 0)) := ((hb1.setCell hg _).setCell hg _).setCell hg _
  have a2 := a1.trans (hb2.mono a1.size)
  have a3 := a2.trans (hb3.mono a2.size)
  have a4 := a3.trans (hb4.mono a3.size)
  have a5 := a4.trans (hb5.mono a4.size)
  exact a5.trans (hb6.mono a5.size)
end Go.Proofs.Ytdmcmlajpajaaaa
namespace Go.Proofs.Ytdmcmlajpajaaaa
open Go.RowKit Go.Sx
theorem lany_zero (ao : Option Addr) (cap : Nat) (w : World) : Calls Try.prog 28 #[.slice ao 0 cap] w fun e w' => e = .returned (.bool false) ∧ Below w.heap.size w w' := by
  go_enter Try.func28, Try.ntmps28
  go_wp2
  refine wp_loop_rounds 1 ?_
  rw [rounds_succ]
  go_wp2
  go_ret
  exact ⟨rfl, Below.refl _ _⟩

set_option maxHeartbeats 400000 in
theorem lany_some (b off : Nat) (n cap : Nat) (V : Nat → Int) (S : Nat → Bool) (w : World) (hb : b < w.heap.size) (hl : n ≤ 1000000) (h : ∀ i, i < n → ∀ j, j < 2 → w.cell? ⟨b, off + i * 2 + j, none⟩ = some (ByC V S i j)) :
    Calls Try.prog 28 #[.slice (some ⟨b, off, none⟩) n cap] w fun e w' => e = .returned (.bool ((List.range n).any S)) ∧ Below w.heap.size w w' := by
  go_enter Try.func28, Try.ntmps28
  go_wp2
  go_loopw [7] (fun i wr => ∃ k : Nat, k ≤ n ∧ i = .int .i64 k ∧ (List.range k).any S = false ∧ Below w.heap.size w wr) (fun i _ => n - (intOf i).toNat)
  case atStart => exact ⟨0, Nat.zero_le _, rfl, rfl, Below.refl _ _⟩
  case round =>
    obtain ⟨k, hk, rfl, ht0, hbl⟩ := hrel
    have ht := hidI ht0; clear ht0
    have hcv : k < n → wr.cell? ⟨b, off + k * 2, none⟩ = some (.int .u8 (V k)) := fun hlt => (hbl.cell (p := ⟨b, off + k * 2, none⟩) (by exact hb)).trans (h k hlt 0 (by omega))
    have hcs : k < n → wr.cell? ⟨b, off + k * 2 + 1, none⟩ = some (.bool (S k)) := fun hlt => (hbl.cell (p := ⟨b, off + k * 2 + 1, none⟩) (by exact hb)).trans (h k hlt 1 (by omega))
    go_wp2
    · go_ret
      have hlt : k < n := by assumption
      have hs : S k = true := by assumption
      exact ⟨ret_bool ((any_succ hlt ht.out).1 hs).symm, hbl.alloc hbl.size _⟩
    · go_roundw
      have hlt : k < n := by assumption
      have hs : S k = false := by assumption
      case rel => exact ⟨k + 1, by omega, by go_num, (any_succ hlt ht.out).2 hs, hbl.alloc hbl.size _⟩
      case measure => simp [intOf]; omega
    · go_ret
      have : k = n := by omega
      subst this
      exact ⟨ret_bool ht.out.symm, hbl⟩
theorem lany_any (ao : Option Addr) (n cap : Nat) (V : Nat → Int) (S : Nat → Bool) (w : World) (hl : n ≤ 1000000) (h : RowAt w ao n 2 (ByC V S)) :
    Calls Try.prog 28 #[.slice ao n cap] w fun e w' => e = .returned (.bool ((List.range n).any S)) ∧ Below w.heap.size w w' := by
  by_cases hn : 0 < n
  · obtain ⟨b, off, rfl, hb, hc⟩ := h.some hn
    exact lany_some b off n cap V S w hb hl hc
  · obtain rfl : n = 0 := by omega
    exact lany_zero ao cap w


def eqU (A B : Nat → Int) (n : Nat) : Bool := (List.range n).all fun k => decide (A k = B k)
theorem eqU_succ {A B : Nat → Int} {k : Nat} (h : eqU A B k = true) (e : A k = B k) : eqU A B (k + 1) = true := by
  unfold eqU at *
  rw [List.range_succ, List.all_append, h]
  simp [e]
theorem eqU_no {A B : Nat → Int} {k n : Nat} (hk : k < n) (e : A k ≠ B k) : eqU A B n = false := by
  unfold eqU
  rw [List.all_eq_false]
  exact ⟨k, by simpa using hk, by simpa using e⟩
set_option maxHeartbeats 800000 in
theorem ints_same (b1 o1 b2 o2 n c1 c2 : Nat) (A B : Nat → Int) (w : World) (hl : n ≤ 1000000) (h1 : ∀ i, i < n → w.cell? ⟨b1, o1 + i, none⟩ = some (.int .i64 (A i))) (h2 : ∀ i, i < n → w.cell? ⟨b2, o2 + i, none⟩ = some (.int .i64 (B i))) :
    Calls Try.prog 16 #[.slice (some ⟨b1, o1, none⟩) n c1, .slice (some ⟨b2, o2, none⟩) n c2] w fun e w' => e = .returned (.bool (eqU A B n)) ∧ Below w.heap.size w w' := by
  go_enter Try.func16, Try.ntmps16
  go_wp2
  go_loopw [5] (fun i wr => ∃ k q : Nat, k ≤ n ∧ i = .int .i64 k ∧ eqU A B k = true ∧ wr = w.drewN q) (fun i _ => n - (intOf i).toNat)
  case atStart => exact ⟨0, 0, Nat.zero_le _, rfl, rfl, rfl⟩
  case round =>
    obtain ⟨k, q, hk, rfl, ht0, rfl⟩ := hrel
    have ht := hidI ht0; clear ht0
    by_cases hlt : k < n
    · have d1 : (w.drewN q).cell? ⟨b1, o1 + k, none⟩ = some (.int .i64 (A k)) := h1 k hlt
      have d2 : (w.drewN q).cell? ⟨b2, o2 + k, none⟩ = some (.int .i64 (B k)) := h2 k hlt
      have hlt' : (k : Int) < n := by omega
      go_wp2
      go_quiet (fail)
      go_wp2
      · go_ret
        have h : (A k != B k) = true := by assumption
        exact ⟨ret_bool (eqU_no hlt (by simpa using h)).symm, below_drewN (below_drewN (Below.refl _ _) _) _⟩
      · have h : (A k != B k) = false := by assumption
        exact ⟨⟨k + 1, _, by omega, by simp, eqU_succ ht.out (by simpa using h), rfl⟩, by simp [intOf]; omega⟩
    · obtain rfl : k = n := by omega
      go_wp2
      go_ret
      exact ⟨ret_bool ht.out.symm, below_drewN (Below.refl _ _) _⟩
theorem ints_zero (ao bo : Option Addr) (c1 c2 : Nat) (w : World) : Calls Try.prog 16 #[.slice ao 0 c1, .slice bo 0 c2] w fun e w' => e = .returned (.bool true) ∧ Below w.heap.size w w' := by
  go_enter Try.func16, Try.ntmps16
  go_wp2
  refine wp_loop_rounds 1 ?_
  rw [rounds_succ]
  go_wp2
  go_ret
  exact ⟨rfl, Below.refl _ _⟩
theorem eqU_self (A : Nat → Int) (n : Nat) : eqU A A n = true := by
  unfold eqU
  simp
theorem ints_eq (ao bo : Option Addr) (n c1 c2 : Nat) (A : Nat → Int) (w : World) (hl : n ≤ 1000000) (h1 : RowAt w ao n 1 (fun i _ => .int .i64 (A i))) (h2 : RowAt w bo n 1 (fun i _ => .int .i64 (A i))) :
    Calls Try.prog 16 #[.slice ao n c1, .slice bo n c2] w fun e w' => e = .returned (.bool true) ∧ Below w.heap.size w w' := by
  by_cases hn : 0 < n
  · obtain ⟨b1, o1, rfl, hb1, g1⟩ := h1.some hn
    obtain ⟨b2, o2, rfl, hb2, g2⟩ := h2.some hn
    have := ints_same b1 o1 b2 o2 n c1 c2 A A w hl (fun i hi => by have := g1 i hi 0 (by omega); rw [Nat.mul_one, Nat.add_zero] at this; exact this) (fun i hi => by have := g2 i hi 0 (by omega); rw [Nat.mul_one, Nat.add_zero] at this; exact this)
    rw [eqU_self] at this
    exact this
  · obtain rfl : n = 0 := by omega
    exact ints_zero ao bo c1 c2 w
end Go.Proofs.Ytdmcmlajpajaaaa
namespace Go.Proofs.Ytdmcmlajpajaaaa
open Go.RowKit Go.Sx
def rv (n : Int) : Int := (n / 128 % 2) + 2 * (n / 64 % 2) + 4 * (n / 32 % 2) + 8 * (n / 16 % 2) + 16 * (n / 8 % 2) + 32 * (n / 4 % 2) + 64 * (n / 2 % 2) + 128 * (n % 2)
def rvB : List UInt8 := (List.range 256).map fun k => UInt8.ofNat (rv (k : Nat)).toNat
theorem tab_get (d : ByteArray) (hd : d.data.toList = rvB) (n : Int) (h0 : 0 ≤ n) (h1 : n ≤ 255) (h : n.toNat < d.size) : ((d[n.toNat]'h).toNat : Int) = rv n := by
  have e : d.data.toList[n.toNat]? = some (d[n.toNat]'h) := by rw [Array.getElem?_toList]; exact Array.getElem?_eq_getElem h
  have key : ∀ k : Fin 256, (rvB[k.val]?.map fun u => (u.toNat : Int)) = some (rv (k.val : Nat)) := by decide +kernel
  have := key ⟨n.toNat, by omega⟩
  rw [hd] at e
  rw [e] at this
  simpa [Int.toNat_of_nonneg h0] using this
set_option maxRecDepth 100000 in
theorem rev8_any (n : Int) (w : World) (h0 : 0 ≤ n) (h1 : n ≤ 255) : Calls Try.prog 29 #[.int .u8 n] w fun e w' => e = .returned (.int .u8 (rv n)) ∧ w' = w := by
  go_enter Try.func29, Try.ntmps29
  go_wp2
  go_ret
  exact ⟨ret_int (tab_get _ (by kernel_rfl) n h0 h1 _), rfl⟩
theorem turn_any (n : Int) (w : World) (h0 : 0 ≤ n) (h1 : n ≤ 255) : Calls Try.prog 31 #[.int .u8 n] w fun e w' => e = .returned (.int .u8 (rv n)) ∧ w' = w := by
  go_enter Try.func31, Try.ntmps31
  go_wp2
  refine wp_loop_rounds 9 ?_
  repeat (rw [rounds_succ]; go_wp2)
  go_ret
  exact ⟨ret_int (by unfold rv; omega), rfl⟩
end Go.Proofs.Ytdmcmlajpajaaaa
namespace Go.Proofs.Ytdmcmlajpajaaaa
open Go.RowKit Go.Sx
abbrev unV (x lo hi ti : Int) (be ze s : Bool) : Value := .agg #[.int .u8 x, .int .u8 lo, .int .u8 hi, .int .u8 ti, .bool be, .bool ze, .bool s]
theorem un_no (ao : Option Addr) (n cap : Nat) (i : Int) (a b : Int) (sa sb : Bool) (w : World) (h0 : mayB n i 0 = false) :
    Calls Try.prog 14 #[.slice ao n cap, .int .i64 i, .agg #[.int .u8 a, .bool sa], .agg #[.int .u8 b, .bool sb]] w fun e w' => e = .returned (.tuple #[unV 0 0 0 0 false false false, .int .i64 1]) ∧ Below w.heap.size w w' := by
  have H := hidI h0; clear h0
  go_enter Try.func14, Try.ntmps14
  go_wp2_with fail
  refine (may_any _ _ _ _ _ _).mono ?_
  rw [H.out]
  rintro e w' ⟨rfl, rfl⟩
  go_wp2
  refine bodyPost_ret (v := .tuple #[unV 0 0 0 0 false false false, .int .i64 1]) (by simp [results, Try.results14, go_sem]) rfl ⟨rfl, ?_⟩
  exact (((Below.refl _ _).alloc (Nat.le_refl _) _).alloc (by simp) _).alloc (by simp; omega) _
theorem and64 (lk : Int) (h0 : 0 ≤ lk) (h1 : lk ≤ 255) : bits BinOp.and IntKind.u8 lk 64 = 64 * (lk / 64 % 2) ∧ bits BinOp.and IntKind.u8 lk 32 = 32 * (lk / 32 % 2) ∧ bits BinOp.and IntKind.u8 lk 3 = lk % 4 := by
  have key : ∀ a : Fin 256, bits BinOp.and IntKind.u8 ((a.val : Nat) : Int) 64 = 64 * (((a.val : Nat) : Int) / 64 % 2) ∧ bits BinOp.and IntKind.u8 ((a.val : Nat) : Int) 32 = 32 * (((a.val : Nat) : Int) / 32 % 2) ∧ bits BinOp.and IntKind.u8 ((a.val : Nat) : Int) 3 = ((a.val : Nat) : Int) % 4 := by decide +kernel
  have := key ⟨lk.toNat, by omega⟩
  simpa only [Int.toNat_of_nonneg h0] using this
theorem sc7 {w : World} {B : Nat} {a : Addr} (h : B ≠ a.block) (v0 v1 v2 v3 v4 v5 v6 : Value) : (((((((w.setCell ⟨B, 0, none⟩ v0).setCell ⟨B, 1, none⟩ v1).setCell ⟨B, 2, none⟩ v2).setCell ⟨B, 3, none⟩ v3).setCell ⟨B, 4, none⟩ v4).setCell ⟨B, 5, none⟩ v5).setCell ⟨B, 6, none⟩ v6).cell? a = w.cell? a := by
  rw [World.cell?_setCell_far _ _ _ _ h, World.cell?_setCell_far _ _ _ _ h, World.cell?_setCell_far _ _ _ _ h, World.cell?_setCell_far _ _ _ _ h, World.cell?_setCell_far _ _ _ _ h, World.cell?_setCell_far _ _ _ _ h, World.cell?_setCell_far _ _ _ _ h]
theorem b7 {w0 w : World} {A B : Nat} (h : Below A w0 w) (hB : A ≤ B) (v0 v1 v2 v3 v4 v5 v6 : Value) : Below A w0 (((((((w.setCell ⟨B, 0, none⟩ v0).setCell ⟨B, 1, none⟩ v1).setCell ⟨B, 2, none⟩ v2).setCell ⟨B, 3, none⟩ v3).setCell ⟨B, 4, none⟩ v4).setCell ⟨B, 5, none⟩ v5).setCell ⟨B, 6, none⟩ v6) := by
  exact (((((((h.setCell (p := ⟨B, 0, none⟩) hB v0).setCell (p := ⟨B, 1, none⟩) hB v1).setCell (p := ⟨B, 2, none⟩) hB v2).setCell (p := ⟨B, 3, none⟩) hB v3).setCell (p := ⟨B, 4, none⟩) hB v4).setCell (p := ⟨B, 5, none⟩) hB v5).setCell (p := ⟨B, 6, none⟩) hB v6)
theorem ret_un {x lo hi ti : Int} {be be' ze ze' s : Bool} (h : be = be') (h' : ze = ze') : Ending.returned (.tuple #[unV x lo hi ti be ze s, .int .i64 0]) = Ending.returned (.tuple #[unV x lo hi ti be' ze' s, .int .i64 0]) := by rw [h, h']
set_option maxRecDepth 100000 in
set_option maxHeartbeats 32000000 in
theorem un_yes (b off cap : Nat) (i : Nat) (y ti lk x : Int) (s0 s1 s2 s3 : Bool) (a c : Int) (sa sc : Bool) (w : World) (hb : b < w.heap.size) (hi64 : i < 64) (hcap : 256 ≤ cap)
    (hk0 : 0 ≤ lk) (hk1 : lk ≤ 255) (ha0 : 0 ≤ a) (ha1 : a ≤ 255) (hc0 : 0 ≤ c) (hc1 : c ≤ 255)
    (c0 : w.cell? ⟨b, off + 4 * i * 2, none⟩ = some (.int .u8 y)) (c1 : w.cell? ⟨b, off + 4 * i * 2 + 1, none⟩ = some (.bool s0)) (c2 : w.cell? ⟨b, off + 4 * i * 2 + 2, none⟩ = some (.int .u8 ti)) (c3 : w.cell? ⟨b, off + 4 * i * 2 + 3, none⟩ = some (.bool s1))
    (c4 : w.cell? ⟨b, off + 4 * i * 2 + 4, none⟩ = some (.int .u8 lk)) (c5 : w.cell? ⟨b, off + 4 * i * 2 + 5, none⟩ = some (.bool s2)) (c6 : w.cell? ⟨b, off + 4 * i * 2 + 6, none⟩ = some (.int .u8 x)) (c7 : w.cell? ⟨b, off + 4 * i * 2 + 7, none⟩ = some (.bool s3)) :
    Calls Try.prog 14 #[.slice (some ⟨b, off, none⟩) 256 cap, .int .i64 i, .agg #[.int .u8 a, .bool sa], .agg #[.int .u8 c, .bool sc]] w fun e w' => e = .returned (.tuple #[unV x (if lk / 64 % 2 = 1 then rv a else a) (if lk / 64 % 2 = 1 then rv c else c) (lk % 4) (decide (lk / 32 % 2 = 1)) (decide (i = 0)) (s0 || s1 || s2 || s3 || sa || sc), .int .i64 0]) ∧ Below w.heap.size w w' := by
  have HM : Hid (mayB 256 (i : Int) 0 = true) := by show mayB _ _ _ = true; unfold mayB; rw [decide_eq_true_iff]; omega
  obtain ⟨q64, q32, q3⟩ := and64 lk hk0 hk1
  have n0 : w.heap.size ≠ b := by omega
  have n1 : w.heap.size + 1 ≠ b := by omega
  have n2 : w.heap.size + 1 + 1 ≠ b := by omega
  have m0 : b ≠ w.heap.size := by omega
  have m1 : b ≠ w.heap.size + 1 := by omega
  have m2 : b ≠ w.heap.size + 1 + 1 := by omega
  have l0 : b < w.heap.size + 1 := by omega
  have l1 : b < w.heap.size + 1 + 1 := by omega
  go_enter Try.func14, Try.ntmps14
  go_wp2_with fail
  refine (may_any _ _ _ _ _ _).mono ?_
  rw [HM.out]
  rintro e w' ⟨rfl, rfl⟩
  go_wp2_with fail
  refine (one_any b off cap i _ hi64 hcap).mono ?_
  rintro e w' ⟨rfl, rfl⟩
  go_upto_region 6 with fail
  · go_cut [32] (fun p wx => p = .int .u8 (rv c) ∧ wx.cell? ⟨w.heap.size, 0, none⟩ = some (.int .u8 (rv a)) ∧ wx.cell? ⟨w.heap.size, 1, none⟩ = some (.bool sa) ∧ wx.cell? ⟨w.heap.size + 1, 0, none⟩ = some (.int .u8 (rv c)) ∧ wx.cell? ⟨w.heap.size + 1, 1, none⟩ = some (.bool sc) ∧ (∀ j, j < 7 → ((wx.cell? ⟨w.heap.size + 1 + 1, j, none⟩).isSome = true ∧ wx.frozen? ⟨w.heap.size + 1 + 1, j, none⟩ = false)) ∧ w.heap.size + 1 + 1 < wx.heap.size ∧ Below w.heap.size w wx)
    case first =>
      go_region_with (first | (go_at_call 29; refine (rev8_any a _ ha0 ha1).mono ?_; rintro e w' ⟨rfl, rfl⟩) | (go_at_call 29; refine (rev8_any c _ hc0 hc1).mono ?_; rintro e w' ⟨rfl, rfl⟩))
      all_goals
        go_wp2_with fail
        go_meet
        refine ⟨rfl, by simp [go_sem], by simp [go_sem], by simp [go_sem], by simp [go_sem], ?_, by simp, ?_⟩
        · intro j hj
          have hh : j = 0 ∨ j = 1 ∨ j = 2 ∨ j = 3 ∨ j = 4 ∨ j = 5 ∨ j = 6 := by omega
          rcases hh with rfl | rfl | rfl | rfl | rfl | rfl | rfl <;> simp [go_sem]
        · exact ((((Below.refl _ _).alloc (Nat.le_refl _) _).alloc (by simp) _).alloc (by simp; omega) _).drew
    case rest =>
      obtain ⟨rfl, e0, e1, e2, e3, er, el, hbw⟩ := hcut
      have hk : ∀ o v, w.cell? ⟨b, o, none⟩ = some v → wc.cell? ⟨b, o, none⟩ = some v := fun o v hv => (hbw.cell (by exact hb)).trans hv
      have d0 := hk _ _ c0
      have d1 := hk _ _ c1
      have d2 := hk _ _ c2
      have d3 := hk _ _ c3
      have d4 := hk _ _ c4
      have d5 := hk _ _ c5
      have d6 := hk _ _ c6
      have d7 := hk _ _ c7
      have hbl : b < wc.heap.size := Nat.lt_of_lt_of_le hb hbw.size
      clear c0 c1 c2 c3 c4 c5 c6 c7
      go_upto_region 7 with fail
      refine wp_region_noPanic ?_
      refine wp_region_held_drew (S := (fun w' => w'.cell? ⟨b, off + 4 * i * 2 + 6, none⟩ = some (.int .u8 x) ∧ w'.cell? ⟨w.heap.size, 0, none⟩ = some (.int .u8 (rv a)) ∧ w'.cell? ⟨w.heap.size, 1, none⟩ = some (.bool sa) ∧ w'.cell? ⟨w.heap.size + 1, 0, none⟩ = some (.int .u8 (rv c)) ∧ w'.cell? ⟨w.heap.size + 1, 1, none⟩ = some (.bool sc))) (by kernel_rfl) ⟨d6, e0, e1, e2, e3⟩ (fun hHeld => ?_)
      refine wpAnyH_take (i := 0) (oi := ⟨_, _, _, _, _, _⟩) (v := ?_) rfl (by kernel_rfl) (by kernel_rfl) (by kernel_rfl) (fun _ _ _ h => h) (Or.inl ⟨by rfl, ?_⟩) (by assumption) ?_
      rotate_left
      · (intro w hSw; (try dsimp only at hSw); go_simp); with_reducible rfl
      simp only [Act.put, List.setIfInBounds_toArray, List.set_cons_zero, List.set_cons_succ]
      refine wpAnyH_take (i := 1) (oi := ⟨_, _, _, _, _, _⟩) (v := ?_) rfl (by kernel_rfl) (by kernel_rfl) (by kernel_rfl) (fun _ _ _ h => h) (Or.inl ⟨by rfl, ?_⟩) (by assumption) ?_
      rotate_left
      · (intro w hSw; (try dsimp only at hSw); go_simp); with_reducible rfl
      simp only [Act.put, List.setIfInBounds_toArray, List.set_cons_zero, List.set_cons_succ]
      refine wpAnyH_take (i := 2) (oi := ⟨_, _, _, _, _, _⟩) (v := ?_) rfl (by kernel_rfl) (by kernel_rfl) (by kernel_rfl) (fun _ _ _ h => h) (Or.inl ⟨by rfl, ?_⟩) (by assumption) ?_
      rotate_left
      · (intro w hSw; (try dsimp only at hSw); go_simp); with_reducible rfl
      simp only [Act.put, List.setIfInBounds_toArray, List.set_cons_zero, List.set_cons_succ]
      refine wpAnyH_take (i := 3) (oi := ⟨_, _, _, _, _, _⟩) (v := ?_) rfl (by kernel_rfl) (by kernel_rfl) (by kernel_rfl) (fun _ _ _ h => h) (Or.inl ⟨by rfl, ?_⟩) (by assumption) ?_
      rotate_left
      · (intro w hSw; (try dsimp only at hSw); go_simp); with_reducible rfl
      simp only [Act.put, List.setIfInBounds_toArray, List.set_cons_zero, List.set_cons_succ]
      refine wpAnyH_take (i := 4) (oi := ⟨_, _, _, _, _, _⟩) (v := ?_) rfl (by kernel_rfl) (by kernel_rfl) (by kernel_rfl) (fun _ _ _ h => h) (Or.inl ⟨by rfl, ?_⟩) (by assumption) ?_
      rotate_left
      · (intro w hSw; (try dsimp only at hSw); go_simp); with_reducible rfl
      simp only [Act.put, List.setIfInBounds_toArray, List.set_cons_zero, List.set_cons_succ]
      refine wpAnyH_take (i := 5) (oi := ⟨_, _, _, _, _, _⟩) (v := ?_) rfl (by kernel_rfl) (by kernel_rfl) (by kernel_rfl) (fun _ _ _ h => h) (Or.inl ⟨by rfl, ?_⟩) (by assumption) ?_
      rotate_left
      · (intro w hSw; (try dsimp only at hSw); go_simp); with_reducible rfl
      simp only [Act.put, List.setIfInBounds_toArray, List.set_cons_zero, List.set_cons_succ]
      refine wpAnyH_take (i := 6) (oi := ⟨_, _, _, _, _, _⟩) (v := ?_) rfl (by kernel_rfl) (by kernel_rfl) (by kernel_rfl) (fun _ _ _ h => h) (Or.inl ⟨by rfl, ?_⟩) (by assumption) ?_
      rotate_left
      · (intro w hSw; (try dsimp only at hSw); go_simp); with_reducible rfl
      simp only [Act.put, List.setIfInBounds_toArray, List.set_cons_zero, List.set_cons_succ]
      refine wpAnyH_take (i := 7) (oi := ⟨_, _, _, _, _, _⟩) (v := ?_) rfl (by kernel_rfl) (by kernel_rfl) (by kernel_rfl) (fun _ _ _ h => h) (Or.inl ⟨by rfl, ?_⟩) (by assumption) ?_
      rotate_left
      · (intro w hSw; (try dsimp only at hSw); go_simp); with_reducible rfl
      simp only [Act.put, List.setIfInBounds_toArray, List.set_cons_zero, List.set_cons_succ]
      refine wpAnyH_take (i := 8) (oi := ⟨_, _, _, _, _, _⟩) (v := ?_) rfl (by kernel_rfl) (by kernel_rfl) (by kernel_rfl) (fun _ _ _ h => h) (Or.inl ⟨by rfl, ?_⟩) (by assumption) ?_
      rotate_left
      · (intro w hSw; (try dsimp only at hSw); go_simp); with_reducible rfl
      simp only [Act.put, List.setIfInBounds_toArray, List.set_cons_zero, List.set_cons_succ]
      refine wpAnyH_take (i := 9) (oi := ⟨_, _, _, _, _, _⟩) (v := ?_) rfl (by kernel_rfl) (by kernel_rfl) (by kernel_rfl) (fun _ _ _ h => h) (Or.inl ⟨by rfl, ?_⟩) (by assumption) ?_
      rotate_left
      · (intro w hSw; (try dsimp only at hSw); go_simp); with_reducible rfl
      simp only [Act.put, List.setIfInBounds_toArray, List.set_cons_zero, List.set_cons_succ]
      refine wpAnyH_take (i := 10) (oi := ⟨_, _, _, _, _, _⟩) (v := ?_) rfl (by kernel_rfl) (by kernel_rfl) (by kernel_rfl) (fun _ _ _ h => h) (Or.inl ⟨by rfl, ?_⟩) (by assumption) ?_
      rotate_left
      · (intro w hSw; (try dsimp only at hSw); go_simp); with_reducible rfl
      simp only [Act.put, List.setIfInBounds_toArray, List.set_cons_zero, List.set_cons_succ]
      refine wpAnyH_take (i := 11) (oi := ⟨_, _, _, _, _, _⟩) (v := ?_) rfl (by kernel_rfl) (by kernel_rfl) (by kernel_rfl) (fun _ _ _ h => h) (Or.inl ⟨by rfl, ?_⟩) (by assumption) ?_
      rotate_left
      · (intro w hSw; (try dsimp only at hSw); go_simp); with_reducible rfl
      simp only [Act.put, List.setIfInBounds_toArray, List.set_cons_zero, List.set_cons_succ]
      refine wpAnyH_take (i := 12) (oi := ⟨_, _, _, _, _, _⟩) (v := ?_) rfl (by kernel_rfl) (by kernel_rfl) (by kernel_rfl) (fun _ _ _ h => h) (Or.inl ⟨by rfl, ?_⟩) (by assumption) ?_
      rotate_left
      · (intro w hSw; (try dsimp only at hSw); go_simp); with_reducible rfl
      simp only [Act.put, List.setIfInBounds_toArray, List.set_cons_zero, List.set_cons_succ]
      refine wpAnyH_take (i := 13) (oi := ⟨_, _, _, _, _, _⟩) (v := ?_) rfl (by kernel_rfl) (by kernel_rfl) (by kernel_rfl) (fun _ _ _ h => h) (Or.inl ⟨by rfl, ?_⟩) (by assumption) ?_
      rotate_left
      · (intro w hSw; (try dsimp only at hSw); go_simp); with_reducible rfl
      simp only [Act.put, List.setIfInBounds_toArray, List.set_cons_zero, List.set_cons_succ]
      refine wpAnyH_take (i := 14) (oi := ⟨_, _, _, _, _, _⟩) (v := ?_) rfl (by kernel_rfl) (by kernel_rfl) (by kernel_rfl) (fun _ _ _ h => h) (Or.inl ⟨by rfl, ?_⟩) (by assumption) ?_
      rotate_left
      · (intro w hSw; (try dsimp only at hSw); go_simp); with_reducible rfl
      simp only [Act.put, List.setIfInBounds_toArray, List.set_cons_zero, List.set_cons_succ]
      refine wpAnyH_take (i := 15) (oi := ⟨_, _, _, _, _, _⟩) (v := ?_) rfl (by kernel_rfl) (by kernel_rfl) (by kernel_rfl) (fun _ _ _ h => h) (Or.inl ⟨by rfl, ?_⟩) (by assumption) ?_
      rotate_left
      · (intro w hSw; (try dsimp only at hSw); go_simp); with_reducible rfl
      simp only [Act.put, List.setIfInBounds_toArray, List.set_cons_zero, List.set_cons_succ]
      refine wpAnyH_take (i := 16) (oi := ⟨_, _, _, _, _, _⟩) (v := ?_) rfl (by kernel_rfl) (by kernel_rfl) (by kernel_rfl) (fun _ _ _ h => h) (Or.inl ⟨by rfl, ?_⟩) (by assumption) ?_
      rotate_left
      · (intro w hSw; (try dsimp only at hSw); go_simp); with_reducible rfl
      simp only [Act.put, List.setIfInBounds_toArray, List.set_cons_zero, List.set_cons_succ]
      refine wpAnyH_take (i := 17) (oi := ⟨_, _, _, _, _, _⟩) (v := ?_) rfl (by kernel_rfl) (by kernel_rfl) (by kernel_rfl) (fun _ _ _ h => h) (Or.inl ⟨by rfl, ?_⟩) (by assumption) ?_
      rotate_left
      · (intro w hSw; (try dsimp only at hSw); go_simp); with_reducible rfl
      simp only [Act.put, List.setIfInBounds_toArray, List.set_cons_zero, List.set_cons_succ]
      refine wpAnyH_ready (rs := [18]) (by kernel_rfl) (by simp) ?_
      refine AllReadyH.cons (o := ⟨_, _, _, _, _, _⟩) rfl (fun K hK => ?_) AllReadyH.nil
      go_simp
      refine hK.out _ _ (by go_keep) (fun hHeld => ?_)
      clear hK K
      refine wpAnyH_ready (rs := [19]) (by kernel_rfl) (by simp) ?_
      refine AllReadyH.cons (o := ⟨_, _, _, _, _, _⟩) rfl (fun K hK => ?_) AllReadyH.nil
      go_simp
      obtain ⟨wy, hwy⟩ : ∃ wy, wy = ((wc.alloc (Obj.cells #[Value.int IntKind.u8 (rv a), Value.bool sa, Value.int IntKind.u8 (rv c), Value.bool sc] 24)).alloc (Obj.cells (#[Value.int IntKind.u8 y, Value.bool s0, Value.int IntKind.u8 ti, Value.bool s1, Value.int IntKind.u8 lk, Value.bool s2, Value.int IntKind.u8 x, Value.bool s3] ++ (#[Value.int IntKind.u8 (rv a), Value.bool sa, Value.int IntKind.u8 (rv c), Value.bool sc] ++ Builtin.zeroCells #[Value.int IntKind.u8 0, Value.bool false] ((Question.appendCap 6 4 24).cut (wc.tape (wc.drawn + 1) (Question.appendCap 6 4 24)) - 6))) 24)).drew.drew := ⟨_, rfl⟩
      rw [← hwy]
      have byc : Below wc.heap.size wc wy := by rw [hwy]; exact (((Below.refl _ _).alloc (Nat.le_refl _) _).alloc (by simp) _).drew.drew
      have hyl : wc.heap.size + 1 < wy.heap.size := by rw [hwy]; simp
      have hyr : wy.heap[wc.heap.size + 1]? = some (Obj.cells (#[Value.int IntKind.u8 y, Value.bool s0, Value.int IntKind.u8 ti, Value.bool s1, Value.int IntKind.u8 lk, Value.bool s2, Value.int IntKind.u8 x, Value.bool s3] ++ (#[Value.int IntKind.u8 (rv a), Value.bool sa, Value.int IntKind.u8 (rv c), Value.bool sc] ++ Builtin.zeroCells #[Value.int IntKind.u8 0, Value.bool false] ((Question.appendCap 6 4 24).cut (wc.tape (wc.drawn + 1) (Question.appendCap 6 4 24)) - 6))) 24) := by
        rw [hwy]
        have q : (wc.alloc (Obj.cells #[Value.int IntKind.u8 (rv a), Value.bool sa, Value.int IntKind.u8 (rv c), Value.bool sc] 24)).heap.size = wc.heap.size + 1 := by simp
        rw [← q]
        exact Array.getElem?_push_size
      have hyc : ∀ k j, k < 6 → j < 2 → wy.cell? ⟨wc.heap.size + 1, 0 + k * 2 + j, none⟩ = some (ByC (fun k => [y, ti, lk, x, (rv a), (rv c)].getD k 0) (fun k => [s0, s1, s2, s3, sa, sc].getD k false) k j) := by
        intro k j hk hj
        rw [cell_of_row _ _ _ _ _ _ hyr]
        have hh : (k = 0 ∨ k = 1 ∨ k = 2 ∨ k = 3 ∨ k = 4 ∨ k = 5) ∧ (j = 0 ∨ j = 1) := by omega
        rcases hh with ⟨rfl | rfl | rfl | rfl | rfl | rfl, rfl | rfl⟩ <;> simp [ByC, Array.getElem?_append]
      clear hwy hyr
      refine hK.out _ _ ⟨(byc.cell (by exact hbl)).trans d6, (byc.cell (by show w.heap.size < _; omega)).trans e0, (byc.cell (by show w.heap.size < _; omega)).trans e1, (byc.cell (by show w.heap.size + 1 < _; omega)).trans e2, (byc.cell (by show w.heap.size + 1 < _; omega)).trans e3⟩ (fun hHeld => ?_)
      clear hK K
      refine wpAnyH_ready (rs := [20]) (by kernel_rfl) (by simp) ?_
      refine AllReadyH.cons (o := ⟨_, _, _, _, _, _⟩) rfl (fun K hK => ?_) AllReadyH.nil
      have hl := lany_some (wc.heap.size + 1) 0 6 ((Question.appendCap 6 4 24).cut (wc.tape (wc.drawn + 1) (Question.appendCap 6 4 24))) _ _ wy hyl (by omega) (fun k hk j hj => hyc k j hk hj)
      have hany : (List.range 6).any (fun k => [s0, s1, s2, s3, sa, sc].getD k false) = (s0 || s1 || s2 || s3 || sa || sc) := by cases s0 <;> cases s1 <;> cases s2 <;> cases s3 <;> cases sa <;> cases sc <;> rfl
      rw [hany] at hl
      go_simp
      refine hl.mono ?_
      rintro e w3 ⟨rfl, b3⟩
      have b3z : Below wc.heap.size wc w3 := byc.trans (b3.mono (by omega))
      refine hK.out _ _ ⟨(b3z.cell (by exact hbl)).trans d6, (b3z.cell (by show w.heap.size < _; omega)).trans e0, (b3z.cell (by show w.heap.size < _; omega)).trans e1, (b3z.cell (by show w.heap.size + 1 < _; omega)).trans e2, (b3z.cell (by show w.heap.size + 1 < _; omega)).trans e3⟩ (fun hHeld => ?_)
      clear hl hany hyc
      clear hK K
      refine wpAnyH_take (i := 21) (oi := ⟨_, _, _, _, _, _⟩) (v := ?_) rfl (by kernel_rfl) (by kernel_rfl) (by kernel_rfl) (fun _ _ _ h => h) (Or.inl ⟨by rfl, ?_⟩) (by assumption) ?_
      rotate_left
      · (intro w hSw; (try dsimp only at hSw); go_simp); with_reducible rfl
      simp only [Act.put, List.setIfInBounds_toArray, List.set_cons_zero, List.set_cons_succ]
      refine wpAnyH_ready (rs := [22]) (by kernel_rfl) (by simp) ?_
      refine AllReadyH.cons (o := ⟨_, _, _, _, _, _⟩) rfl (fun K hK => ?_) AllReadyH.nil
      have hr : ∀ j, j < 7 → ∃ v, w3.cell? ⟨w.heap.size + 1 + 1, j, none⟩ = some v := fun j hj => by
        obtain ⟨v, hv⟩ := Option.isSome_iff_exists.1 (er j hj).1
        exact ⟨v, (b3z.cell (by exact el)).trans hv⟩
      have hf : ∀ j, j < 7 → w3.frozen? ⟨w.heap.size + 1 + 1, j, none⟩ = false := fun j hj => (World.frozen?_of_block (b3z.block _ el)).trans (er j hj).2
      obtain ⟨v0, r0⟩ := hr 0 (by omega)
      obtain ⟨v1, r1⟩ := hr 1 (by omega)
      obtain ⟨v2, r2⟩ := hr 2 (by omega)
      obtain ⟨v3, r3⟩ := hr 3 (by omega)
      obtain ⟨v4, r4⟩ := hr 4 (by omega)
      obtain ⟨v5, r5⟩ := hr 5 (by omega)
      obtain ⟨v6, r6⟩ := hr 6 (by omega)
      have f0 := hf 0 (by omega)
      have f1 := hf 1 (by omega)
      have f2 := hf 2 (by omega)
      have f3 := hf 3 (by omega)
      have f4 := hf 4 (by omega)
      have f5 := hf 5 (by omega)
      have f6 := hf 6 (by omega)
      clear er hr hf
      go_simp
      refine hK.out _ _ ⟨(sc7 n2 _ _ _ _ _ _ _).trans hHeld.1, (sc7 (by show _ ≠ w.heap.size; omega) _ _ _ _ _ _ _).trans hHeld.2.1, (sc7 (by show _ ≠ w.heap.size; omega) _ _ _ _ _ _ _).trans hHeld.2.2.1, (sc7 (by show _ ≠ w.heap.size + 1; omega) _ _ _ _ _ _ _).trans hHeld.2.2.2.1, (sc7 (by show _ ≠ w.heap.size + 1; omega) _ _ _ _ _ _ _).trans hHeld.2.2.2.2⟩ (fun hHeld => ?_)
      clear hK K
      refine wpAnyH_take (i := 23) (oi := ⟨_, _, _, _, _, _⟩) (v := ?_) rfl (by kernel_rfl) (by kernel_rfl) (by kernel_rfl) (fun _ _ _ h => h) (Or.inl ⟨by rfl, ?_⟩) (by assumption) ?_
      rotate_left
      · (intro w hSw; (try dsimp only at hSw); go_simp); with_reducible rfl
      simp only [Act.put, List.setIfInBounds_toArray, List.set_cons_zero, List.set_cons_succ]
      refine wpAnyH_done (by kernel_rfl) (NoPanic.normal ?_) _
      go_wp2
      have bz : Below w.heap.size w w3 := hbw.trans (b3z.mono hbw.size)
      have hq : lk / 64 % 2 = 1 := by omega
      refine bodyPost_ret (v := .tuple #[unV x (rv a) (rv c) (lk % 4) (decide (0 < 32 * (lk / 32 % 2))) ((i : Int) == 0) (s0 || s1 || s2 || s3 || sa || sc), .int .i64 0]) (by simp [results, Try.results14, go_sem, r0, r1, r2, r3, r4, r5, r6]) rfl ⟨by first | (exact ret_un (by rw [decide_eq_decide]; omega) (by rw [Bool.eq_iff_iff]; simp)) | (simp only [hq, if_true, if_false]; exact ret_un (by rw [decide_eq_decide]; omega) (by rw [Bool.eq_iff_iff]; simp)), b7 bz (by omega) _ _ _ _ _ _ _⟩
  · obtain ⟨wc, hwc⟩ : ∃ wc, wc = (((w.alloc (.cells #[.int .u8 a, .bool sa] 24)).alloc (.cells #[.int .u8 c, .bool sc] 24)).alloc (.cells #[.int .u8 0, .int .u8 0, .int .u8 0, .int .u8 0, .bool false, .bool false, .bool false] 44)) := ⟨_, rfl⟩
    rw [← hwc]
    have e0 : wc.cell? ⟨w.heap.size, 0, none⟩ = some (.int .u8 a) := by rw [hwc]; simp [go_sem]
    have e1 : wc.cell? ⟨w.heap.size, 1, none⟩ = some (.bool sa) := by rw [hwc]; simp [go_sem]
    have e2 : wc.cell? ⟨w.heap.size + 1, 0, none⟩ = some (.int .u8 c) := by rw [hwc]; simp [go_sem]
    have e3 : wc.cell? ⟨w.heap.size + 1, 1, none⟩ = some (.bool sc) := by rw [hwc]; simp [go_sem]
    have er : ∀ j, j < 7 → ((wc.cell? ⟨w.heap.size + 1 + 1, j, none⟩).isSome = true ∧ wc.frozen? ⟨w.heap.size + 1 + 1, j, none⟩ = false) := by
      intro j hj
      rw [hwc]
      have hh : j = 0 ∨ j = 1 ∨ j = 2 ∨ j = 3 ∨ j = 4 ∨ j = 5 ∨ j = 6 := by omega
      rcases hh with rfl | rfl | rfl | rfl | rfl | rfl | rfl <;> simp [go_sem]
    have el : w.heap.size + 1 + 1 < wc.heap.size := by rw [hwc]; simp
    have hbw : Below w.heap.size w wc := by rw [hwc]; exact (((Below.refl _ _).alloc (Nat.le_refl _) _).alloc (by simp) _).alloc (by simp; omega) _
    clear hwc
    have hk : ∀ o v, w.cell? ⟨b, o, none⟩ = some v → wc.cell? ⟨b, o, none⟩ = some v := fun o v hv => (hbw.cell (by exact hb)).trans hv
    have d0 := hk _ _ c0
    have d1 := hk _ _ c1
    have d2 := hk _ _ c2
    have d3 := hk _ _ c3
    have d4 := hk _ _ c4
    have d5 := hk _ _ c5
    have d6 := hk _ _ c6
    have d7 := hk _ _ c7
    have hbl : b < wc.heap.size := Nat.lt_of_lt_of_le hb hbw.size
    clear c0 c1 c2 c3 c4 c5 c6 c7
    refine wp_region_noPanic ?_
    refine wp_region_held_drew (S := (fun w' => w'.cell? ⟨b, off + 4 * i * 2 + 6, none⟩ = some (.int .u8 x) ∧ w'.cell? ⟨w.heap.size, 0, none⟩ = some (.int .u8 a) ∧ w'.cell? ⟨w.heap.size, 1, none⟩ = some (.bool sa) ∧ w'.cell? ⟨w.heap.size + 1, 0, none⟩ = some (.int .u8 c) ∧ w'.cell? ⟨w.heap.size + 1, 1, none⟩ = some (.bool sc))) (by kernel_rfl) ⟨d6, e0, e1, e2, e3⟩ (fun hHeld => ?_)
    refine wpAnyH_take (i := 0) (oi := ⟨_, _, _, _, _, _⟩) (v := ?_) rfl (by kernel_rfl) (by kernel_rfl) (by kernel_rfl) (fun _ _ _ h => h) (Or.inl ⟨by rfl, ?_⟩) (by assumption) ?_
    rotate_left
    · (intro w hSw; (try dsimp only at hSw); go_simp); with_reducible rfl
    simp only [Act.put, List.setIfInBounds_toArray, List.set_cons_zero, List.set_cons_succ]
    refine wpAnyH_take (i := 1) (oi := ⟨_, _, _, _, _, _⟩) (v := ?_) rfl (by kernel_rfl) (by kernel_rfl) (by kernel_rfl) (fun _ _ _ h => h) (Or.inl ⟨by rfl, ?_⟩) (by assumption) ?_
    rotate_left
    · (intro w hSw; (try dsimp only at hSw); go_simp); with_reducible rfl
    simp only [Act.put, List.setIfInBounds_toArray, List.set_cons_zero, List.set_cons_succ]
    refine wpAnyH_take (i := 2) (oi := ⟨_, _, _, _, _, _⟩) (v := ?_) rfl (by kernel_rfl) (by kernel_rfl) (by kernel_rfl) (fun _ _ _ h => h) (Or.inl ⟨by rfl, ?_⟩) (by assumption) ?_
    rotate_left
    · (intro w hSw; (try dsimp only at hSw); go_simp); with_reducible rfl
    simp only [Act.put, List.setIfInBounds_toArray, List.set_cons_zero, List.set_cons_succ]
    refine wpAnyH_take (i := 3) (oi := ⟨_, _, _, _, _, _⟩) (v := ?_) rfl (by kernel_rfl) (by kernel_rfl) (by kernel_rfl) (fun _ _ _ h => h) (Or.inl ⟨by rfl, ?_⟩) (by assumption) ?_
    rotate_left
    · (intro w hSw; (try dsimp only at hSw); go_simp); with_reducible rfl
    simp only [Act.put, List.setIfInBounds_toArray, List.set_cons_zero, List.set_cons_succ]
    refine wpAnyH_take (i := 4) (oi := ⟨_, _, _, _, _, _⟩) (v := ?_) rfl (by kernel_rfl) (by kernel_rfl) (by kernel_rfl) (fun _ _ _ h => h) (Or.inl ⟨by rfl, ?_⟩) (by assumption) ?_
    rotate_left
    · (intro w hSw; (try dsimp only at hSw); go_simp); with_reducible rfl
    simp only [Act.put, List.setIfInBounds_toArray, List.set_cons_zero, List.set_cons_succ]
    refine wpAnyH_take (i := 5) (oi := ⟨_, _, _, _, _, _⟩) (v := ?_) rfl (by kernel_rfl) (by kernel_rfl) (by kernel_rfl) (fun _ _ _ h => h) (Or.inl ⟨by rfl, ?_⟩) (by assumption) ?_
    rotate_left
    · (intro w hSw; (try dsimp only at hSw); go_simp); with_reducible rfl
    simp only [Act.put, List.setIfInBounds_toArray, List.set_cons_zero, List.set_cons_succ]
    refine wpAnyH_take (i := 6) (oi := ⟨_, _, _, _, _, _⟩) (v := ?_) rfl (by kernel_rfl) (by kernel_rfl) (by kernel_rfl) (fun _ _ _ h => h) (Or.inl ⟨by rfl, ?_⟩) (by assumption) ?_
    rotate_left
    · (intro w hSw; (try dsimp only at hSw); go_simp); with_reducible rfl
    simp only [Act.put, List.setIfInBounds_toArray, List.set_cons_zero, List.set_cons_succ]
    refine wpAnyH_take (i := 7) (oi := ⟨_, _, _, _, _, _⟩) (v := ?_) rfl (by kernel_rfl) (by kernel_rfl) (by kernel_rfl) (fun _ _ _ h => h) (Or.inl ⟨by rfl, ?_⟩) (by assumption) ?_
    rotate_left
    · (intro w hSw; (try dsimp only at hSw); go_simp); with_reducible rfl
    simp only [Act.put, List.setIfInBounds_toArray, List.set_cons_zero, List.set_cons_succ]
    refine wpAnyH_take (i := 8) (oi := ⟨_, _, _, _, _, _⟩) (v := ?_) rfl (by kernel_rfl) (by kernel_rfl) (by kernel_rfl) (fun _ _ _ h => h) (Or.inl ⟨by rfl, ?_⟩) (by assumption) ?_
    rotate_left
    · (intro w hSw; (try dsimp only at hSw); go_simp); with_reducible rfl
    simp only [Act.put, List.setIfInBounds_toArray, List.set_cons_zero, List.set_cons_succ]
    refine wpAnyH_take (i := 9) (oi := ⟨_, _, _, _, _, _⟩) (v := ?_) rfl (by kernel_rfl) (by kernel_rfl) (by kernel_rfl) (fun _ _ _ h => h) (Or.inl ⟨by rfl, ?_⟩) (by assumption) ?_
    rotate_left
    · (intro w hSw; (try dsimp only at hSw); go_simp); with_reducible rfl
    simp only [Act.put, List.setIfInBounds_toArray, List.set_cons_zero, List.set_cons_succ]
    refine wpAnyH_take (i := 10) (oi := ⟨_, _, _, _, _, _⟩) (v := ?_) rfl (by kernel_rfl) (by kernel_rfl) (by kernel_rfl) (fun _ _ _ h => h) (Or.inl ⟨by rfl, ?_⟩) (by assumption) ?_
    rotate_left
    · (intro w hSw; (try dsimp only at hSw); go_simp); with_reducible rfl
    simp only [Act.put, List.setIfInBounds_toArray, List.set_cons_zero, List.set_cons_succ]
    refine wpAnyH_take (i := 11) (oi := ⟨_, _, _, _, _, _⟩) (v := ?_) rfl (by kernel_rfl) (by kernel_rfl) (by kernel_rfl) (fun _ _ _ h => h) (Or.inl ⟨by rfl, ?_⟩) (by assumption) ?_
    rotate_left
    · (intro w hSw; (try dsimp only at hSw); go_simp); with_reducible rfl
    simp only [Act.put, List.setIfInBounds_toArray, List.set_cons_zero, List.set_cons_succ]
    refine wpAnyH_take (i := 12) (oi := ⟨_, _, _, _, _, _⟩) (v := ?_) rfl (by kernel_rfl) (by kernel_rfl) (by kernel_rfl) (fun _ _ _ h => h) (Or.inl ⟨by rfl, ?_⟩) (by assumption) ?_
    rotate_left
    · (intro w hSw; (try dsimp only at hSw); go_simp); with_reducible rfl
    simp only [Act.put, List.setIfInBounds_toArray, List.set_cons_zero, List.set_cons_succ]
    refine wpAnyH_take (i := 13) (oi := ⟨_, _, _, _, _, _⟩) (v := ?_) rfl (by kernel_rfl) (by kernel_rfl) (by kernel_rfl) (fun _ _ _ h => h) (Or.inl ⟨by rfl, ?_⟩) (by assumption) ?_
    rotate_left
    · (intro w hSw; (try dsimp only at hSw); go_simp); with_reducible rfl
    simp only [Act.put, List.setIfInBounds_toArray, List.set_cons_zero, List.set_cons_succ]
    refine wpAnyH_take (i := 14) (oi := ⟨_, _, _, _, _, _⟩) (v := ?_) rfl (by kernel_rfl) (by kernel_rfl) (by kernel_rfl) (fun _ _ _ h => h) (Or.inl ⟨by rfl, ?_⟩) (by assumption) ?_
    rotate_left
    · (intro w hSw; (try dsimp only at hSw); go_simp); with_reducible rfl
    simp only [Act.put, List.setIfInBounds_toArray, List.set_cons_zero, List.set_cons_succ]
    refine wpAnyH_take (i := 15) (oi := ⟨_, _, _, _, _, _⟩) (v := ?_) rfl (by kernel_rfl) (by kernel_rfl) (by kernel_rfl) (fun _ _ _ h => h) (Or.inl ⟨by rfl, ?_⟩) (by assumption) ?_
    rotate_left
    · (intro w hSw; (try dsimp only at hSw); go_simp); with_reducible rfl
    simp only [Act.put, List.setIfInBounds_toArray, List.set_cons_zero, List.set_cons_succ]
    refine wpAnyH_take (i := 16) (oi := ⟨_, _, _, _, _, _⟩) (v := ?_) rfl (by kernel_rfl) (by kernel_rfl) (by kernel_rfl) (fun _ _ _ h => h) (Or.inl ⟨by rfl, ?_⟩) (by assumption) ?_
    rotate_left
    · (intro w hSw; (try dsimp only at hSw); go_simp); with_reducible rfl
    simp only [Act.put, List.setIfInBounds_toArray, List.set_cons_zero, List.set_cons_succ]
    refine wpAnyH_take (i := 17) (oi := ⟨_, _, _, _, _, _⟩) (v := ?_) rfl (by kernel_rfl) (by kernel_rfl) (by kernel_rfl) (fun _ _ _ h => h) (Or.inl ⟨by rfl, ?_⟩) (by assumption) ?_
    rotate_left
    · (intro w hSw; (try dsimp only at hSw); go_simp); with_reducible rfl
    simp only [Act.put, List.setIfInBounds_toArray, List.set_cons_zero, List.set_cons_succ]
    refine wpAnyH_ready (rs := [18]) (by kernel_rfl) (by simp) ?_
    refine AllReadyH.cons (o := ⟨_, _, _, _, _, _⟩) rfl (fun K hK => ?_) AllReadyH.nil
    go_simp
    refine hK.out _ _ (by go_keep) (fun hHeld => ?_)
    clear hK K
    refine wpAnyH_ready (rs := [19]) (by kernel_rfl) (by simp) ?_
    refine AllReadyH.cons (o := ⟨_, _, _, _, _, _⟩) rfl (fun K hK => ?_) AllReadyH.nil
    go_simp
    obtain ⟨wy, hwy⟩ : ∃ wy, wy = ((wc.alloc (Obj.cells #[Value.int IntKind.u8 a, Value.bool sa, Value.int IntKind.u8 c, Value.bool sc] 24)).alloc (Obj.cells (#[Value.int IntKind.u8 y, Value.bool s0, Value.int IntKind.u8 ti, Value.bool s1, Value.int IntKind.u8 lk, Value.bool s2, Value.int IntKind.u8 x, Value.bool s3] ++ (#[Value.int IntKind.u8 a, Value.bool sa, Value.int IntKind.u8 c, Value.bool sc] ++ Builtin.zeroCells #[Value.int IntKind.u8 0, Value.bool false] ((Question.appendCap 6 4 24).cut (wc.tape (wc.drawn + 1) (Question.appendCap 6 4 24)) - 6))) 24)).drew.drew := ⟨_, rfl⟩
    rw [← hwy]
    have byc : Below wc.heap.size wc wy := by rw [hwy]; exact (((Below.refl _ _).alloc (Nat.le_refl _) _).alloc (by simp) _).drew.drew
    have hyl : wc.heap.size + 1 < wy.heap.size := by rw [hwy]; simp
    have hyr : wy.heap[wc.heap.size + 1]? = some (Obj.cells (#[Value.int IntKind.u8 y, Value.bool s0, Value.int IntKind.u8 ti, Value.bool s1, Value.int IntKind.u8 lk, Value.bool s2, Value.int IntKind.u8 x, Value.bool s3] ++ (#[Value.int IntKind.u8 a, Value.bool sa, Value.int IntKind.u8 c, Value.bool sc] ++ Builtin.zeroCells #[Value.int IntKind.u8 0, Value.bool false] ((Question.appendCap 6 4 24).cut (wc.tape (wc.drawn + 1) (Question.appendCap 6 4 24)) - 6))) 24) := by
      rw [hwy]
      have q : (wc.alloc (Obj.cells #[Value.int IntKind.u8 a, Value.bool sa, Value.int IntKind.u8 c, Value.bool sc] 24)).heap.size = wc.heap.size + 1 := by simp
      rw [← q]
      exact Array.getElem?_push_size
    have hyc : ∀ k j, k < 6 → j < 2 → wy.cell? ⟨wc.heap.size + 1, 0 + k * 2 + j, none⟩ = some (ByC (fun k => [y, ti, lk, x, a, c].getD k 0) (fun k => [s0, s1, s2, s3, sa, sc].getD k false) k j) := by
      intro k j hk hj
      rw [cell_of_row _ _ _ _ _ _ hyr]
      have hh : (k = 0 ∨ k = 1 ∨ k = 2 ∨ k = 3 ∨ k = 4 ∨ k = 5) ∧ (j = 0 ∨ j = 1) := by omega
      rcases hh with ⟨rfl | rfl | rfl | rfl | rfl | rfl, rfl | rfl⟩ <;> simp [ByC, Array.getElem?_append]
    clear hwy hyr
    refine hK.out _ _ ⟨(byc.cell (by exact hbl)).trans d6, (byc.cell (by show w.heap.size < _; omega)).trans e0, (byc.cell (by show w.heap.size < _; omega)).trans e1, (byc.cell (by show w.heap.size + 1 < _; omega)).trans e2, (byc.cell (by show w.heap.size + 1 < _; omega)).trans e3⟩ (fun hHeld => ?_)
    clear hK K
    refine wpAnyH_ready (rs := [20]) (by kernel_rfl) (by simp) ?_
    refine AllReadyH.cons (o := ⟨_, _, _, _, _, _⟩) rfl (fun K hK => ?_) AllReadyH.nil
    have hl := lany_some (wc.heap.size + 1) 0 6 ((Question.appendCap 6 4 24).cut (wc.tape (wc.drawn + 1) (Question.appendCap 6 4 24))) _ _ wy hyl (by omega) (fun k hk j hj => hyc k j hk hj)
    have hany : (List.range 6).any (fun k => [s0, s1, s2, s3, sa, sc].getD k false) = (s0 || s1 || s2 || s3 || sa || sc) := by cases s0 <;> cases s1 <;> cases s2 <;> cases s3 <;> cases sa <;> cases sc <;> rfl
    rw [hany] at hl
    go_simp
    refine hl.mono ?_
    rintro e w3 ⟨rfl, b3⟩
    have b3z : Below wc.heap.size wc w3 := byc.trans (b3.mono (by omega))
    refine hK.out _ _ ⟨(b3z.cell (by exact hbl)).trans d6, (b3z.cell (by show w.heap.size < _; omega)).trans e0, (b3z.cell (by show w.heap.size < _; omega)).trans e1, (b3z.cell (by show w.heap.size + 1 < _; omega)).trans e2, (b3z.cell (by show w.heap.size + 1 < _; omega)).trans e3⟩ (fun hHeld => ?_)
    clear hl hany hyc
    clear hK K
    refine wpAnyH_take (i := 21) (oi := ⟨_, _, _, _, _, _⟩) (v := ?_) rfl (by kernel_rfl) (by kernel_rfl) (by kernel_rfl) (fun _ _ _ h => h) (Or.inl ⟨by rfl, ?_⟩) (by assumption) ?_
    rotate_left
    · (intro w hSw; (try dsimp only at hSw); go_simp); with_reducible rfl
    simp only [Act.put, List.setIfInBounds_toArray, List.set_cons_zero, List.set_cons_succ]
    refine wpAnyH_ready (rs := [22]) (by kernel_rfl) (by simp) ?_
    refine AllReadyH.cons (o := ⟨_, _, _, _, _, _⟩) rfl (fun K hK => ?_) AllReadyH.nil
    have hr : ∀ j, j < 7 → ∃ v, w3.cell? ⟨w.heap.size + 1 + 1, j, none⟩ = some v := fun j hj => by
      obtain ⟨v, hv⟩ := Option.isSome_iff_exists.1 (er j hj).1
      exact ⟨v, (b3z.cell (by exact el)).trans hv⟩
    have hf : ∀ j, j < 7 → w3.frozen? ⟨w.heap.size + 1 + 1, j, none⟩ = false := fun j hj => (World.frozen?_of_block (b3z.block _ el)).trans (er j hj).2
    obtain ⟨v0, r0⟩ := hr 0 (by omega)
    obtain ⟨v1, r1⟩ := hr 1 (by omega)
    obtain ⟨v2, r2⟩ := hr 2 (by omega)
    obtain ⟨v3, r3⟩ := hr 3 (by omega)
    obtain ⟨v4, r4⟩ := hr 4 (by omega)
    obtain ⟨v5, r5⟩ := hr 5 (by omega)
    obtain ⟨v6, r6⟩ := hr 6 (by omega)
    have f0 := hf 0 (by omega)
    have f1 := hf 1 (by omega)
    have f2 := hf 2 (by omega)
    have f3 := hf 3 (by omega)
    have f4 := hf 4 (by omega)
    have f5 := hf 5 (by omega)
    have f6 := hf 6 (by omega)
    clear er hr hf
    go_simp
    refine hK.out _ _ ⟨(sc7 n2 _ _ _ _ _ _ _).trans hHeld.1, (sc7 (by show _ ≠ w.heap.size; omega) _ _ _ _ _ _ _).trans hHeld.2.1, (sc7 (by show _ ≠ w.heap.size; omega) _ _ _ _ _ _ _).trans hHeld.2.2.1, (sc7 (by show _ ≠ w.heap.size + 1; omega) _ _ _ _ _ _ _).trans hHeld.2.2.2.1, (sc7 (by show _ ≠ w.heap.size + 1; omega) _ _ _ _ _ _ _).trans hHeld.2.2.2.2⟩ (fun hHeld => ?_)
    clear hK K
    refine wpAnyH_take (i := 23) (oi := ⟨_, _, _, _, _, _⟩) (v := ?_) rfl (by kernel_rfl) (by kernel_rfl) (by kernel_rfl) (fun _ _ _ h => h) (Or.inl ⟨by rfl, ?_⟩) (by assumption) ?_
    rotate_left
    · (intro w hSw; (try dsimp only at hSw); go_simp); with_reducible rfl
    simp only [Act.put, List.setIfInBounds_toArray, List.set_cons_zero, List.set_cons_succ]
    refine wpAnyH_done (by kernel_rfl) (NoPanic.normal ?_) _
    go_wp2
    have bz : Below w.heap.size w w3 := hbw.trans (b3z.mono hbw.size)
    have hq : ¬ (lk / 64 % 2 = 1) := by omega
    refine bodyPost_ret (v := .tuple #[unV x a c (lk % 4) (decide (0 < 32 * (lk / 32 % 2))) ((i : Int) == 0) (s0 || s1 || s2 || s3 || sa || sc), .int .i64 0]) (by simp [results, Try.results14, go_sem, r0, r1, r2, r3, r4, r5, r6]) rfl ⟨by first | (exact ret_un (by rw [decide_eq_decide]; omega) (by rw [Bool.eq_iff_iff]; simp)) | (simp only [hq, if_true, if_false]; exact ret_un (by rw [decide_eq_decide]; omega) (by rw [Bool.eq_iff_iff]; simp)), b7 bz (by omega) _ _ _ _ _ _ _⟩
end Go.Proofs.Ytdmcmlajpajaaaa
namespace Go.Proofs.Ytdmcmlajpajaaaa
open Go.RowKit Go.Sx
theorem blk_cell {w : World} {g : Nat} {cs : Array Value} {t : TypeId} {fr : Nat × Nat} (h : w.heap[g]? = some (.cells cs t fr)) (j : Nat) : w.cell? ⟨g, j, none⟩ = cs[j]? := by simp [World.cell?, h]
theorem blk_free {w : World} {g : Nat} {cs : Array Value} {t : TypeId} (h : w.heap[g]? = some (.cells cs t (0, 0))) (j : Nat) : w.frozen? ⟨g, j, none⟩ = false := by simp [World.frozen?, h]
theorem blk_lt {w : World} {g : Nat} {o : Obj} (h : w.heap[g]? = some o) : g < w.heap.size := (Array.getElem?_eq_some_iff.1 h).1
theorem blk_alloc {w : World} {g : Nat} {o : Obj} (h : w.heap[g]? = some o) (x : Obj) : (w.alloc x).heap[g]? = some o := by rw [Below.heap_alloc _ _ _ (blk_lt h)]; exact h
theorem blk_new (w : World) (x : Obj) : (w.alloc x).heap[w.heap.size]? = some x := by show (w.heap.push _)[w.heap.size]? = _; simp
theorem blk_new' {w : World} {g : Nat} (x : Obj) (h : w.heap.size = g) : (w.alloc x).heap[g]? = some x := by subst h; exact blk_new w x
theorem blk_set {w : World} {g : Nat} {cs : Array Value} {t : TypeId} {fr : Nat × Nat} (h : w.heap[g]? = some (.cells cs t fr)) (j : Nat) (v : Value) : (w.setCell ⟨g, j, none⟩ v).heap[g]? = some (.cells (cs.setIfInBounds j v) t fr) := by
  simp only [World.setCell]
  rw [Array.getElem?_modify, if_pos rfl, h]
  rfl
theorem blk_other {w : World} {g : Nat} {a : Addr} (h : a.block ≠ g) (v : Value) : (w.setCell a v).heap[g]? = w.heap[g]? := by
  simp only [World.setCell]
  rw [Array.getElem?_modify, if_neg h]
end Go.Proofs.Ytdmcmlajpajaaaa
namespace Go.Proofs.Ytdmcmlajpajaaaa
open Go.RowKit Go.Sx
/-- What the document's unit has made. -/
structure UW (w wx : World) (a c : Int) (sa sc : Bool) (x A C ti : Int) (be ze s : Bool) : Prop where
  b0 : wx.heap[w.heap.size]? = some (.cells #[.int .u8 a, .bool sa] 24 (0, 0))
  b1 : wx.heap[w.heap.size + 1]? = some (.cells #[.int .u8 c, .bool sc] 24 (0, 0))
  b2 : wx.heap[w.heap.size + 1 + 1]? = some (.cells #[.int .u8 0, .int .u8 0, .int .u8 0, .int .u8 0, .bool false, .bool false, .bool false] 44 (0, 0))
  b3 : wx.heap[w.heap.size + 1 + 1 + 1]? = some (.cells #[.int .u8 x, .int .u8 A, .int .u8 C, .int .u8 ti, .bool be, .bool ze, .bool s] 44 (0, 0))
  bl : Below w.heap.size w wx
theorem UW.set6 {w wx : World} {a c : Int} {sa sc : Bool} {x A C ti : Int} {be ze s : Bool} (h : UW w wx a c sa sc x A C ti be ze s) (s' : Bool) : UW w (wx.setCell ⟨w.heap.size + 1 + 1 + 1, 6, none⟩ (.bool s')) a c sa sc x A C ti be ze s' :=
  ⟨(blk_other (by show w.heap.size + 1 + 1 + 1 ≠ _; omega) _).trans h.b0, (blk_other (by show w.heap.size + 1 + 1 + 1 ≠ _; omega) _).trans h.b1, (blk_other (by show w.heap.size + 1 + 1 + 1 ≠ _; omega) _).trans h.b2, by
    have := blk_set h.b3 6 (.bool s')
    simpa using this, h.bl.setCell (p := ⟨w.heap.size + 1 + 1 + 1, 6, none⟩) (by show _ ≤ w.heap.size + 1 + 1 + 1; omega) _⟩
theorem UW.set12 {w wx : World} {a c : Int} {sa sc : Bool} {x A C ti : Int} {be ze s : Bool} (h : UW w wx a c sa sc x A C ti be ze s) (A' C' : Int) : UW w ((wx.setCell ⟨w.heap.size + 1 + 1 + 1, 1, none⟩ (.int .u8 A')).setCell ⟨w.heap.size + 1 + 1 + 1, 2, none⟩ (.int .u8 C')) a c sa sc x A' C' ti be ze s :=
  ⟨(blk_other (by show w.heap.size + 1 + 1 + 1 ≠ _; omega) _).trans ((blk_other (by show w.heap.size + 1 + 1 + 1 ≠ _; omega) _).trans h.b0), (blk_other (by show w.heap.size + 1 + 1 + 1 ≠ _; omega) _).trans ((blk_other (by show w.heap.size + 1 + 1 + 1 ≠ _; omega) _).trans h.b1), (blk_other (by show w.heap.size + 1 + 1 + 1 ≠ _; omega) _).trans ((blk_other (by show w.heap.size + 1 + 1 + 1 ≠ _; omega) _).trans h.b2), by
    have := blk_set (blk_set h.b3 1 (.int .u8 A')) 2 (.int .u8 C')
    simpa using this, (h.bl.setCell (p := ⟨w.heap.size + 1 + 1 + 1, 1, none⟩) (by show _ ≤ w.heap.size + 1 + 1 + 1; omega) _).setCell (p := ⟨w.heap.size + 1 + 1 + 1, 2, none⟩) (by show _ ≤ w.heap.size + 1 + 1 + 1; omega) _⟩
theorem UW.drew {w wx : World} {a c : Int} {sa sc : Bool} {x A C ti : Int} {be ze s : Bool} (h : UW w wx a c sa sc x A C ti be ze s) : UW w wx.drew a c sa sc x A C ti be ze s := ⟨h.b0, h.b1, h.b2, h.b3, h.bl.drew⟩
theorem ret_u {x A C ti ti' : Int} {be be' ze ze' s s' : Bool} (h1 : ti = ti') (h2 : be = be') (h3 : ze = ze') (h4 : s = s') : Ending.returned (unV x A C ti be ze s) = Ending.returned (unV x A C ti' be' ze' s') := by rw [h1, h2, h3, h4]
theorem be_eq {lk : Int} {be : Bool} (h0 : 0 ≤ lk) (h1 : lk ≤ 255) (h : be = ((IntKind.u8.wrap (lk.tdiv 32)).tmod 2 == 1)) : be = decide (lk / 32 % 2 = 1) := by
  rw [h, Int.tdiv_eq_ediv_of_nonneg h0]
  have e : IntKind.u8.wrap (lk / 32) = lk / 32 := by unfold IntKind.wrap; simp [IntKind.signed, IntKind.bits]; omega
  rw [e, Int.tmod_eq_emod_of_nonneg (by omega), Bool.eq_iff_iff]
  simp
def accS (S : Nat → Bool) (s : Bool) (k : Nat) : Bool := s || (List.range k).any S
theorem accS_succ (S : Nat → Bool) (s : Bool) (k : Nat) : accS S s (k + 1) = (accS S s k || S k) := by
  unfold accS; rw [List.range_succ, List.any_append]; simp [Bool.or_assoc]
set_option maxRecDepth 100000 in
set_option maxHeartbeats 3200000 in
theorem runit (b off cap : Nat) (i : Nat) (lk x : Int) (S : Nat → Bool) (a c : Int) (sa sc : Bool) (w : World) (hb : b < w.heap.size) (hi64 : i < 64)
    (hk0 : 0 ≤ lk) (hk1 : lk ≤ 255) (ha0 : 0 ≤ a) (ha1 : a ≤ 255) (hc0 : 0 ≤ c) (hc1 : c ≤ 255)
    (c4 : w.cell? ⟨b, off + (4 * i + 2) * 2, none⟩ = some (.int .u8 lk)) (c6 : w.cell? ⟨b, off + (4 * i + 3) * 2, none⟩ = some (.int .u8 x))
    (cS : ∀ k, k < 4 → w.cell? ⟨b, off + (4 * i + k) * 2 + 1, none⟩ = some (.bool (S k))) :
    Calls Try.prog 18 #[.slice (some ⟨b, off, none⟩) 256 cap, .int .i64 i, .agg #[.int .u8 a, .bool sa], .agg #[.int .u8 c, .bool sc]] w fun e w' => e = .returned (unV x (if lk / 64 % 2 = 1 then rv a else a) (if lk / 64 % 2 = 1 then rv c else c) (lk % 4) (decide (lk / 32 % 2 = 1)) (decide (i = 0)) (accS S (sa || sc) 4)) ∧ Below w.heap.size w w' := by
  have n0 : w.heap.size ≠ b := by omega
  have n1 : w.heap.size + 1 ≠ b := by omega
  have n2 : w.heap.size + 1 + 1 ≠ b := by omega
  have n3 : w.heap.size + 1 + 1 + 1 ≠ b := by omega
  have m0 : b ≠ w.heap.size := by omega
  have m1 : b ≠ w.heap.size + 1 := by omega
  have m2 : b ≠ w.heap.size + 1 + 1 := by omega
  have m3 : b ≠ w.heap.size + 1 + 1 + 1 := by omega
  have l0 : b < w.heap.size + 1 := by omega
  have l1 : b < w.heap.size + 1 + 1 := by omega
  have l2 : b < w.heap.size + 1 + 1 + 1 := by omega
  have HS := hidI cS; clear cS
  go_enter Try.func18, Try.ntmps18
  go_upto_region 2 with fail
  go_cut [10] (fun p wx => p = .pointer (some ⟨w.heap.size + 1 + 1 + 1, 0, none⟩) ∧ UW w wx a c sa sc x a c (lk.tmod 4) ((IntKind.u8.wrap (lk.tdiv 32)).tmod 2 == 1) ((i : Int) == 0) false)
  case first =>
    have z1 : IntKind.i64.wrap (4 * (i : Int)) = 4 * i := by unfold IntKind.wrap; simp [IntKind.signed, IntKind.bits]; omega
    have z2 : IntKind.i64.wrap (4 * (i : Int) + 3) = 4 * i + 3 := by unfold IntKind.wrap; simp [IntKind.signed, IntKind.bits]; omega
    have z3 : (0 : Int) ≤ 4 * (i : Int) + 3 := by omega
    have z4 : (4 * (i : Int) + 3) < 256 := by omega
    have z5 : (4 * (i : Int) + 3).toNat = 4 * i + 3 := by omega
    refine wp_region_noPanic ?_
    refine wp_region_held_drew (S := (fun w' => w'.cell? ⟨b, off + (4 * i + 3) * 2, none⟩ = some (.int .u8 x) ∧ w'.cell? ⟨w.heap.size, 0, none⟩ = some (.int .u8 a) ∧ w'.cell? ⟨w.heap.size + 1, 0, none⟩ = some (.int .u8 c))) (by kernel_rfl) ⟨((((((Below.refl w.heap.size w).alloc (Nat.le_refl _) _).alloc (by simp) _).alloc (by simp; omega) _).drew).cell (by exact hb)).trans c6, by simp [go_sem], by simp [go_sem]⟩ (fun hHeld => ?_)
    refine wpAnyH_take (i := 0) (oi := ⟨_, _, _, _, _, _⟩) (v := ?_) rfl (by kernel_rfl) (by kernel_rfl) (by kernel_rfl) (fun _ _ _ h => h) (Or.inl ⟨by rfl, ?_⟩) (by assumption) ?_
    rotate_left
    · (intro w hSw; (try dsimp only at hSw); go_simp); with_reducible rfl
    simp only [Act.put, List.setIfInBounds_toArray, List.set_cons_zero, List.set_cons_succ]
    refine wpAnyH_take (i := 1) (oi := ⟨_, _, _, _, _, _⟩) (v := ?_) rfl (by kernel_rfl) (by kernel_rfl) (by kernel_rfl) (fun _ _ _ h => h) (Or.inl ⟨by rfl, ?_⟩) (by assumption) ?_
    rotate_left
    · (intro w hSw; (try dsimp only at hSw); go_simp); with_reducible rfl
    simp only [Act.put, List.setIfInBounds_toArray, List.set_cons_zero, List.set_cons_succ]
    refine wpAnyH_take (i := 2) (oi := ⟨_, _, _, _, _, _⟩) (v := ?_) rfl (by kernel_rfl) (by kernel_rfl) (by kernel_rfl) (fun _ _ _ h => h) (Or.inl ⟨by rfl, ?_⟩) (by assumption) ?_
    rotate_left
    · (intro w hSw; (try dsimp only at hSw); go_simp); with_reducible rfl
    simp only [Act.put, List.setIfInBounds_toArray, List.set_cons_zero, List.set_cons_succ]
    refine wpAnyH_take (i := 3) (oi := ⟨_, _, _, _, _, _⟩) (v := ?_) rfl (by kernel_rfl) (by kernel_rfl) (by kernel_rfl) (fun _ _ _ h => h) (Or.inl ⟨by rfl, ?_⟩) (by assumption) ?_
    rotate_left
    · (intro w hSw; (try dsimp only at hSw); go_simp); with_reducible rfl
    simp only [Act.put, List.setIfInBounds_toArray, List.set_cons_zero, List.set_cons_succ]
    refine wpAnyH_take (i := 4) (oi := ⟨_, _, _, _, _, _⟩) (v := ?_) rfl (by kernel_rfl) (by kernel_rfl) (by kernel_rfl) (fun _ _ _ h => h) (Or.inl ⟨by rfl, ?_⟩) (by assumption) ?_
    rotate_left
    · (intro w hSw; (try dsimp only at hSw); go_simp); with_reducible rfl
    simp only [Act.put, List.setIfInBounds_toArray, List.set_cons_zero, List.set_cons_succ]
    refine wpAnyH_take (i := 5) (oi := ⟨_, _, _, _, _, _⟩) (v := ?_) rfl (by kernel_rfl) (by kernel_rfl) (by kernel_rfl) (fun _ _ _ h => h) (Or.inl ⟨by rfl, ?_⟩) (by assumption) ?_
    rotate_left
    · (intro w hSw; (try dsimp only at hSw); go_simp); with_reducible rfl
    simp only [Act.put, List.setIfInBounds_toArray, List.set_cons_zero, List.set_cons_succ]
    refine wpAnyH_take (i := 6) (oi := ⟨_, _, _, _, _, _⟩) (v := ?_) rfl (by kernel_rfl) (by kernel_rfl) (by kernel_rfl) (fun _ _ _ h => h) (Or.inl ⟨by rfl, ?_⟩) (by assumption) ?_
    rotate_left
    · (intro w hSw; (try dsimp only at hSw); go_simp); with_reducible rfl
    simp only [Act.put, List.setIfInBounds_toArray, List.set_cons_zero, List.set_cons_succ]
    refine wpAnyH_take (i := 7) (oi := ⟨_, _, _, _, _, _⟩) (v := ?_) rfl (by kernel_rfl) (by kernel_rfl) (by kernel_rfl) (fun _ _ _ h => h) (Or.inl ⟨by rfl, ?_⟩) (by assumption) ?_
    rotate_left
    · (intro w hSw; (try dsimp only at hSw); go_simp); with_reducible rfl
    simp only [Act.put, List.setIfInBounds_toArray, List.set_cons_zero, List.set_cons_succ]
    refine wpAnyH_take (i := 8) (oi := ⟨_, _, _, _, _, _⟩) (v := ?_) rfl (by kernel_rfl) (by kernel_rfl) (by kernel_rfl) (fun _ _ _ h => h) (Or.inl ⟨by rfl, ?_⟩) (by assumption) ?_
    rotate_left
    · (intro w hSw; (try dsimp only at hSw); go_simp); with_reducible rfl
    simp only [Act.put, List.setIfInBounds_toArray, List.set_cons_zero, List.set_cons_succ]
    refine wpAnyH_take (i := 9) (oi := ⟨_, _, _, _, _, _⟩) (v := ?_) rfl (by kernel_rfl) (by kernel_rfl) (by kernel_rfl) (fun _ _ _ h => h) (Or.inl ⟨by rfl, ?_⟩) (by assumption) ?_
    rotate_left
    · (intro w hSw; (try dsimp only at hSw); go_simp); with_reducible rfl
    simp only [Act.put, List.setIfInBounds_toArray, List.set_cons_zero, List.set_cons_succ]
    refine wpAnyH_take (i := 10) (oi := ⟨_, _, _, _, _, _⟩) (v := ?_) rfl (by kernel_rfl) (by kernel_rfl) (by kernel_rfl) (fun _ _ _ h => h) (Or.inl ⟨by rfl, ?_⟩) (by assumption) ?_
    rotate_left
    · (intro w hSw; (try dsimp only at hSw); go_simp); with_reducible rfl
    simp only [Act.put, List.setIfInBounds_toArray, List.set_cons_zero, List.set_cons_succ]
    refine wpAnyH_take (i := 11) (oi := ⟨_, _, _, _, _, _⟩) (v := ?_) rfl (by kernel_rfl) (by kernel_rfl) (by kernel_rfl) (fun _ _ _ h => h) (Or.inl ⟨by rfl, ?_⟩) (by assumption) ?_
    rotate_left
    · (intro w hSw; (try dsimp only at hSw); go_simp); with_reducible rfl
    simp only [Act.put, List.setIfInBounds_toArray, List.set_cons_zero, List.set_cons_succ]
    refine wpAnyH_take (i := 12) (oi := ⟨_, _, _, _, _, _⟩) (v := ?_) rfl (by kernel_rfl) (by kernel_rfl) (by kernel_rfl) (fun _ _ _ h => h) (Or.inl ⟨by rfl, ?_⟩) (by assumption) ?_
    rotate_left
    · (intro w hSw; (try dsimp only at hSw); go_simp); with_reducible rfl
    simp only [Act.put, List.setIfInBounds_toArray, List.set_cons_zero, List.set_cons_succ]
    refine wpAnyH_take (i := 13) (oi := ⟨_, _, _, _, _, _⟩) (v := ?_) rfl (by kernel_rfl) (by kernel_rfl) (by kernel_rfl) (fun _ _ _ h => h) (Or.inl ⟨by rfl, ?_⟩) (by assumption) ?_
    rotate_left
    · (intro w hSw; (try dsimp only at hSw); go_simp); with_reducible rfl
    simp only [Act.put, List.setIfInBounds_toArray, List.set_cons_zero, List.set_cons_succ]
    refine wpAnyH_take (i := 14) (oi := ⟨_, _, _, _, _, _⟩) (v := ?_) rfl (by kernel_rfl) (by kernel_rfl) (by kernel_rfl) (fun _ _ _ h => h) (Or.inl ⟨by rfl, ?_⟩) (by assumption) ?_
    rotate_left
    · (intro w hSw; (try dsimp only at hSw); go_simp); with_reducible rfl
    simp only [Act.put, List.setIfInBounds_toArray, List.set_cons_zero, List.set_cons_succ]
    refine wpAnyH_take (i := 15) (oi := ⟨_, _, _, _, _, _⟩) (v := ?_) rfl (by kernel_rfl) (by kernel_rfl) (by kernel_rfl) (fun _ _ _ h => h) (Or.inl ⟨by rfl, ?_⟩) (by assumption) ?_
    rotate_left
    · (intro w hSw; (try dsimp only at hSw); go_simp); with_reducible rfl
    simp only [Act.put, List.setIfInBounds_toArray, List.set_cons_zero, List.set_cons_succ]
    refine wpAnyH_take (i := 16) (oi := ⟨_, _, _, _, _, _⟩) (v := ?_) rfl (by kernel_rfl) (by kernel_rfl) (by kernel_rfl) (fun _ _ _ h => h) (Or.inl ⟨by rfl, ?_⟩) (by assumption) ?_
    rotate_left
    · (intro w hSw; (try dsimp only at hSw); go_simp); with_reducible rfl
    simp only [Act.put, List.setIfInBounds_toArray, List.set_cons_zero, List.set_cons_succ]
    refine wpAnyH_take (i := 17) (oi := ⟨_, _, _, _, _, _⟩) (v := ?_) rfl (by kernel_rfl) (by kernel_rfl) (by kernel_rfl) (fun _ _ _ h => h) (Or.inl ⟨by rfl, ?_⟩) (by assumption) ?_
    rotate_left
    · (intro w hSw; (try dsimp only at hSw); go_simp); with_reducible rfl
    simp only [Act.put, List.setIfInBounds_toArray, List.set_cons_zero, List.set_cons_succ]
    refine wpAnyH_take (i := 18) (oi := ⟨_, _, _, _, _, _⟩) (v := ?_) rfl (by kernel_rfl) (by kernel_rfl) (by kernel_rfl) (fun _ _ _ h => h) (Or.inl ⟨by rfl, ?_⟩) (by assumption) ?_
    rotate_left
    · (intro w hSw; (try dsimp only at hSw); go_simp); with_reducible rfl
    simp only [Act.put, List.setIfInBounds_toArray, List.set_cons_zero, List.set_cons_succ]
    refine wpAnyH_take (i := 19) (oi := ⟨_, _, _, _, _, _⟩) (v := ?_) rfl (by kernel_rfl) (by kernel_rfl) (by kernel_rfl) (fun _ _ _ h => h) (Or.inl ⟨by rfl, ?_⟩) (by assumption) ?_
    rotate_left
    · (intro w hSw; (try dsimp only at hSw); go_simp); with_reducible rfl
    simp only [Act.put, List.setIfInBounds_toArray, List.set_cons_zero, List.set_cons_succ]
    refine wpAnyH_ready (rs := [20]) (by kernel_rfl) (by simp) ?_
    refine AllReadyH.cons (o := ⟨_, _, _, _, _, _⟩) rfl (fun K hK => ?_) AllReadyH.nil
    go_simp
    refine hK.out _ _ ⟨((((((((Below.refl w.heap.size w).alloc (Nat.le_refl _) _).alloc (by simp) _).alloc (by simp; omega) _).alloc (by simp; omega) _).drew).cell (by exact hb)).trans c6), by simp [go_sem], by simp [go_sem]⟩ (fun hHeld => ?_)
    clear hK K
    refine wpAnyH_ready (rs := [21]) (by kernel_rfl) (by simp) ?_
    refine AllReadyH.cons (o := ⟨_, _, _, _, _, _⟩) rfl (fun K hK => ?_) AllReadyH.nil
    go_simp
    refine hK.out _ _ ⟨((((((((Below.refl w.heap.size w).alloc (Nat.le_refl _) _).alloc (by simp) _).alloc (by simp; omega) _).alloc (by simp; omega) _).drew).cell (by exact hb)).trans c6), by simp [go_sem], by simp [go_sem]⟩ (fun hHeld => ?_)
    clear hK K
    refine wpAnyH_done (by kernel_rfl) (NoPanic.normal ?_) _
    go_wp2_with fail
    go_meet
    refine ⟨rfl, ⟨?_, ?_, ?_, ?_, ?_⟩⟩
    · exact blk_alloc (blk_alloc (blk_alloc (blk_new _ _) _) _) _
    · exact blk_alloc (blk_alloc (blk_new' _ (by simp)) _) _
    · exact blk_alloc (blk_new' _ (by simp)) _
    · exact blk_new' _ (by simp)
    · exact ((((Below.refl w.heap.size w).alloc (Nat.le_refl _) _).alloc (by simp) _).alloc (by simp; omega) _).alloc (by simp; omega) _ |>.drew
  case rest =>
    obtain ⟨rfl, hU⟩ := hcut
    clear c4 c6
    obtain ⟨ti, hti⟩ : ∃ ti, ti = lk.tmod 4 := ⟨_, rfl⟩
    obtain ⟨be, hbe⟩ : ∃ be, be = ((IntKind.u8.wrap (lk.tdiv 32)).tmod 2 == 1) := ⟨_, rfl⟩
    obtain ⟨ze, hze⟩ : ∃ ze, ze = ((i : Int) == 0) := ⟨_, rfl⟩
    rw [← hti, ← hbe, ← hze] at hU
    have HT := hidI hti; clear hti
    have HB := hidI hbe; clear hbe
    have HZ := hidI hze; clear hze
    have d0 : wc.cell? ⟨w.heap.size, 0, none⟩ = some (.int .u8 a) := blk_cell hU.b0 0
    have d1 : wc.cell? ⟨w.heap.size, 1, none⟩ = some (.bool sa) := blk_cell hU.b0 1
    have d2 : wc.cell? ⟨w.heap.size + 1, 0, none⟩ = some (.int .u8 c) := blk_cell hU.b1 0
    have d3 : wc.cell? ⟨w.heap.size + 1, 1, none⟩ = some (.bool sc) := blk_cell hU.b1 1
    have f1 : wc.frozen? ⟨w.heap.size + 1 + 1 + 1, 1, none⟩ = false := blk_free hU.b3 1
    have f2 : wc.frozen? ⟨w.heap.size + 1 + 1 + 1, 2, none⟩ = false := blk_free hU.b3 2
    have f6 : wc.frozen? ⟨w.heap.size + 1 + 1 + 1, 6, none⟩ = false := blk_free hU.b3 6
    have g1 : wc.cell? ⟨w.heap.size + 1 + 1 + 1, 1, none⟩ = some (.int .u8 a) := blk_cell hU.b3 1
    have g2 : wc.cell? ⟨w.heap.size + 1 + 1 + 1, 2, none⟩ = some (.int .u8 c) := blk_cell hU.b3 2
    have g6 : wc.cell? ⟨w.heap.size + 1 + 1 + 1, 6, none⟩ = some (.bool false) := blk_cell hU.b3 6
    by_cases hq : lk / 64 % 2 = 1
    · have hq2 : (lk / 64 % 2 == 1) = true := by simpa using hq
      go_upto_region 4 with fail
      go_cut [10] (fun p wx => p = .pointer (some ⟨w.heap.size + 1 + 1 + 1, 0, none⟩) ∧ UW w wx a c sa sc x (rv a) (rv c) ti be ze false)
      case first =>
        refine wp_region_noPanic ?_
        refine wp_region_held_drew (S := (fun w' => w'.cell? ⟨w.heap.size, 0, none⟩ = some (.int .u8 a) ∧ w'.cell? ⟨w.heap.size + 1, 0, none⟩ = some (.int .u8 c))) (by kernel_rfl) ⟨d0, d2⟩ (fun hHeld => ?_)
        refine wpAnyH_take (i := 0) (oi := ⟨_, _, _, _, _, _⟩) (v := ?_) rfl (by kernel_rfl) (by kernel_rfl) (by kernel_rfl) (fun _ _ _ h => h) (Or.inl ⟨by rfl, ?_⟩) (by assumption) ?_
        rotate_left
        · (intro w hSw; (try dsimp only at hSw); go_simp); with_reducible rfl
        simp only [Act.put, List.setIfInBounds_toArray, List.set_cons_zero, List.set_cons_succ]
        refine wpAnyH_take (i := 1) (oi := ⟨_, _, _, _, _, _⟩) (v := ?_) rfl (by kernel_rfl) (by kernel_rfl) (by kernel_rfl) (fun _ _ _ h => h) (Or.inl ⟨by rfl, ?_⟩) (by assumption) ?_
        rotate_left
        · (intro w hSw; (try dsimp only at hSw); go_simp); with_reducible rfl
        simp only [Act.put, List.setIfInBounds_toArray, List.set_cons_zero, List.set_cons_succ]
        refine wpAnyH_take (i := 3) (oi := ⟨_, _, _, _, _, _⟩) (v := ?_) rfl (by kernel_rfl) (by kernel_rfl) (by kernel_rfl) (fun _ _ _ h => h) (Or.inl ⟨by rfl, ?_⟩) (by assumption) ?_
        rotate_left
        · (intro w hSw; (try dsimp only at hSw); go_simp); with_reducible rfl
        simp only [Act.put, List.setIfInBounds_toArray, List.set_cons_zero, List.set_cons_succ]
        refine wpAnyH_take (i := 4) (oi := ⟨_, _, _, _, _, _⟩) (v := ?_) rfl (by kernel_rfl) (by kernel_rfl) (by kernel_rfl) (fun _ _ _ h => h) (Or.inl ⟨by rfl, ?_⟩) (by assumption) ?_
        rotate_left
        · (intro w hSw; (try dsimp only at hSw); go_simp); with_reducible rfl
        simp only [Act.put, List.setIfInBounds_toArray, List.set_cons_zero, List.set_cons_succ]
        refine wpAnyH_ready (rs := [2]) (by kernel_rfl) (by simp) ?_
        refine AllReadyH.cons (o := ⟨_, _, _, _, _, _⟩) rfl (fun K hK => ?_) AllReadyH.nil
        go_simp
        refine (turn_any a _ ha0 ha1).mono ?_
        rintro e w' ⟨rfl, rfl⟩
        refine hK.out _ _ hHeld (fun hHeld => ?_)
        clear hK K
        refine wpAnyH_take (i := 6) (oi := ⟨_, _, _, _, _, _⟩) (v := ?_) rfl (by kernel_rfl) (by kernel_rfl) (by kernel_rfl) (fun _ _ _ h => h) (Or.inl ⟨by rfl, ?_⟩) (by assumption) ?_
        rotate_left
        · (intro w hSw; (try dsimp only at hSw); go_simp); with_reducible rfl
        simp only [Act.put, List.setIfInBounds_toArray, List.set_cons_zero, List.set_cons_succ]
        refine wpAnyH_ready (rs := [5]) (by kernel_rfl) (by simp) ?_
        refine AllReadyH.cons (o := ⟨_, _, _, _, _, _⟩) rfl (fun K hK => ?_) AllReadyH.nil
        go_simp
        refine (turn_any c _ hc0 hc1).mono ?_
        rintro e w' ⟨rfl, rfl⟩
        refine hK.out _ _ hHeld (fun hHeld => ?_)
        clear hK K
        refine wpAnyH_ready (rs := [7]) (by kernel_rfl) (by simp) ?_
        refine AllReadyH.cons (o := ⟨_, _, _, _, _, _⟩) rfl (fun K hK => ?_) AllReadyH.nil
        go_simp
        refine hK.out _ _ ⟨by first | exact (World.cell?_setCell_far _ _ _ _ (by show w.heap.size + 1 + 1 + 1 ≠ w.heap.size; omega)).trans hHeld.1, by first | exact (World.cell?_setCell_far _ _ _ _ (by show w.heap.size + 1 + 1 + 1 ≠ w.heap.size + 1; omega)).trans hHeld.2⟩ (fun hHeld => ?_)
        clear hK K
        refine wpAnyH_take (i := 8) (oi := ⟨_, _, _, _, _, _⟩) (v := ?_) rfl (by kernel_rfl) (by kernel_rfl) (by kernel_rfl) (fun _ _ _ h => h) (Or.inl ⟨by rfl, ?_⟩) (by assumption) ?_
        rotate_left
        · (intro w hSw; (try dsimp only at hSw); go_simp); with_reducible rfl
        simp only [Act.put, List.setIfInBounds_toArray, List.set_cons_zero, List.set_cons_succ]
        refine wpAnyH_ready (rs := [9]) (by kernel_rfl) (by simp) ?_
        refine AllReadyH.cons (o := ⟨_, _, _, _, _, _⟩) rfl (fun K hK => ?_) AllReadyH.nil
        go_simp
        refine hK.out _ _ ⟨by first | exact (World.cell?_setCell_far _ _ _ _ (by show w.heap.size + 1 + 1 + 1 ≠ w.heap.size; omega)).trans hHeld.1, by first | exact (World.cell?_setCell_far _ _ _ _ (by show w.heap.size + 1 + 1 + 1 ≠ w.heap.size + 1; omega)).trans hHeld.2⟩ (fun hHeld => ?_)
        clear hK K
        refine wpAnyH_done (by kernel_rfl) (NoPanic.normal ?_) _
        go_wp2_with fail
        go_meet
        exact ⟨rfl, (hU.set12 _ _).drew⟩
      case rest =>
        clear hU
        obtain ⟨rfl, hU⟩ := hcut
        clear d0 d1 d2 d3 f1 f2 f6 g1 g2 g6
        have d1 : wc.cell? ⟨w.heap.size, 1, none⟩ = some (.bool sa) := blk_cell hU.b0 1
        have d3 : wc.cell? ⟨w.heap.size + 1, 1, none⟩ = some (.bool sc) := blk_cell hU.b1 1
        have f6 : wc.frozen? ⟨w.heap.size + 1 + 1 + 1, 6, none⟩ = false := blk_free hU.b3 6
        have g6 : wc.cell? ⟨w.heap.size + 1 + 1 + 1, 6, none⟩ = some (.bool false) := blk_cell hU.b3 6
        have hV : ∀ v, v = (sa || sc) → UW w (wc.setCell ⟨w.heap.size + 1 + 1 + 1, 6, none⟩ (.bool v)) a c sa sc x (rv a) (rv c) ti be ze (accS S (sa || sc) 0) := fun v hv => by
          have := hU.set6 v
          rw [show accS S (sa || sc) 0 = v by rw [hv]; simp [accS]]
          exact this
        have HV := hidI hV; clear hV
        go_wp2_with fail
        all_goals
          go_loopw [11] (fun i wr => ∃ k : Nat, k ≤ 4 ∧ i = .int .i64 k ∧ UW w wr a c sa sc x (rv a) (rv c) ti be ze (accS S (sa || sc) k)) (fun i _ => 4 - (intOf i).toNat)
          case atStart => exact ⟨0, Nat.zero_le _, rfl, HV.out _ (by simp [*])⟩
          case round =>
            obtain ⟨k, hk, rfl, hW⟩ := hrel
            clear d1 d3 f6 g6 HV
            have q6 : wr.cell? ⟨w.heap.size + 1 + 1 + 1, 6, none⟩ = some (.bool (accS S (sa || sc) k)) := blk_cell hW.b3 6
            have f6 : wr.frozen? ⟨w.heap.size + 1 + 1 + 1, 6, none⟩ = false := blk_free hW.b3 6
            obtain ⟨s', hs'⟩ : ∃ s', s' = accS S (sa || sc) k := ⟨_, rfl⟩
            rw [← hs'] at q6
            have H' := hidI hs'; clear hs'
            by_cases hlt : k < 4
            · have c0 : wr.cell? ⟨b, off + (4 * i + k) * 2 + 1, none⟩ = some (.bool (S k)) := (hW.bl.cell (p := ⟨b, off + (4 * i + k) * 2 + 1, none⟩) (by exact hb)).trans (HS.out k hlt)
              go_wp2_with fail
              all_goals
                refine ⟨⟨k + 1, by omega, by simp, ?_⟩, by simp [intOf]; omega⟩
                rw [accS_succ, ← H'.out]
              · have hs : s' = true := by assumption
                rw [hs]
                exact hW.set6 true
              · have hs : s' = false := by simpa using (by assumption : ¬ s' = true)
                rw [hs]
                exact hW.set6 (S k)
            · obtain rfl : k = 4 := by omega
              have r0 : wr.cell? ⟨w.heap.size + 1 + 1 + 1, 0, none⟩ = some (.int .u8 x) := blk_cell hW.b3 0
              have r1 : wr.cell? ⟨w.heap.size + 1 + 1 + 1, 1, none⟩ = some (.int .u8 (rv a)) := blk_cell hW.b3 1
              have r2 : wr.cell? ⟨w.heap.size + 1 + 1 + 1, 2, none⟩ = some (.int .u8 (rv c)) := blk_cell hW.b3 2
              have r3 : wr.cell? ⟨w.heap.size + 1 + 1 + 1, 3, none⟩ = some (.int .u8 ti) := blk_cell hW.b3 3
              have r4 : wr.cell? ⟨w.heap.size + 1 + 1 + 1, 4, none⟩ = some (.bool be) := blk_cell hW.b3 4
              have r5 : wr.cell? ⟨w.heap.size + 1 + 1 + 1, 5, none⟩ = some (.bool ze) := blk_cell hW.b3 5
              have z : ∀ j, j < 7 → ∃ v, wr.cell? ⟨w.heap.size + 1 + 1, j, none⟩ = some v := fun j hj => by
                rw [blk_cell hW.b2 j]
                exact ⟨_, Array.getElem?_eq_getElem (by simpa using hj)⟩
              obtain ⟨z0, e0⟩ := z 0 (by omega)
              obtain ⟨z1, e1⟩ := z 1 (by omega)
              obtain ⟨z2, e2⟩ := z 2 (by omega)
              obtain ⟨z3, e3⟩ := z 3 (by omega)
              obtain ⟨z4, e4⟩ := z 4 (by omega)
              obtain ⟨z5, e5⟩ := z 5 (by omega)
              obtain ⟨z6, e6⟩ := z 6 (by omega)
              have y0 := blk_free hW.b2 0
              have y1 := blk_free hW.b2 1
              have y2 := blk_free hW.b2 2
              have y3 := blk_free hW.b2 3
              have y4 := blk_free hW.b2 4
              have y5 := blk_free hW.b2 5
              have y6 := blk_free hW.b2 6
              clear z
              go_wp2_with fail
              refine bodyPost_ret (v := unV x (rv a) (rv c) ti be ze s') (by simp [results, Try.results18, go_sem, e0, e1, e2, e3, e4, e5, e6]) rfl ⟨?_, b7 hW.bl (by omega) _ _ _ _ _ _ _⟩
              exact ret_u (by rw [HT.out, Int.tmod_eq_emod_of_nonneg hk0]) (be_eq hk0 hk1 HB.out) (by rw [HZ.out, Bool.eq_iff_iff]; simp) (by rw [H'.out]; simp [*])
    · clear d0 d1 d2 d3 f1 f2 f6 g1 g2 g6
      have hq2 : (lk / 64 % 2 == 1) = false := by simpa using hq
      have d1 : wc.cell? ⟨w.heap.size, 1, none⟩ = some (.bool sa) := blk_cell hU.b0 1
      have d3 : wc.cell? ⟨w.heap.size + 1, 1, none⟩ = some (.bool sc) := blk_cell hU.b1 1
      have f6 : wc.frozen? ⟨w.heap.size + 1 + 1 + 1, 6, none⟩ = false := blk_free hU.b3 6
      have g6 : wc.cell? ⟨w.heap.size + 1 + 1 + 1, 6, none⟩ = some (.bool false) := blk_cell hU.b3 6
      have hV : ∀ v, v = (sa || sc) → UW w (wc.setCell ⟨w.heap.size + 1 + 1 + 1, 6, none⟩ (.bool v)) a c sa sc x a c ti be ze (accS S (sa || sc) 0) := fun v hv => by
        have := hU.set6 v
        rw [show accS S (sa || sc) 0 = v by rw [hv]; simp [accS]]
        exact this
      have HV := hidI hV; clear hV
      go_wp2_with fail
      all_goals
        go_loopw [11] (fun i wr => ∃ k : Nat, k ≤ 4 ∧ i = .int .i64 k ∧ UW w wr a c sa sc x a c ti be ze (accS S (sa || sc) k)) (fun i _ => 4 - (intOf i).toNat)
        case atStart => exact ⟨0, Nat.zero_le _, rfl, HV.out _ (by simp [*])⟩
        case round =>
          obtain ⟨k, hk, rfl, hW⟩ := hrel
          clear d1 d3 f6 g6 HV
          have q6 : wr.cell? ⟨w.heap.size + 1 + 1 + 1, 6, none⟩ = some (.bool (accS S (sa || sc) k)) := blk_cell hW.b3 6
          have f6 : wr.frozen? ⟨w.heap.size + 1 + 1 + 1, 6, none⟩ = false := blk_free hW.b3 6
          obtain ⟨s', hs'⟩ : ∃ s', s' = accS S (sa || sc) k := ⟨_, rfl⟩
          rw [← hs'] at q6
          have H' := hidI hs'; clear hs'
          by_cases hlt : k < 4
          · have c0 : wr.cell? ⟨b, off + (4 * i + k) * 2 + 1, none⟩ = some (.bool (S k)) := (hW.bl.cell (p := ⟨b, off + (4 * i + k) * 2 + 1, none⟩) (by exact hb)).trans (HS.out k hlt)
            go_wp2_with fail
            all_goals
              refine ⟨⟨k + 1, by omega, by simp, ?_⟩, by simp [intOf]; omega⟩
              rw [accS_succ, ← H'.out]
            · have hs : s' = true := by assumption
              rw [hs]
              exact hW.set6 true
            · have hs : s' = false := by simpa using (by assumption : ¬ s' = true)
              rw [hs]
              exact hW.set6 (S k)
          · obtain rfl : k = 4 := by omega
            have r0 : wr.cell? ⟨w.heap.size + 1 + 1 + 1, 0, none⟩ = some (.int .u8 x) := blk_cell hW.b3 0
            have r1 : wr.cell? ⟨w.heap.size + 1 + 1 + 1, 1, none⟩ = some (.int .u8 a) := blk_cell hW.b3 1
            have r2 : wr.cell? ⟨w.heap.size + 1 + 1 + 1, 2, none⟩ = some (.int .u8 c) := blk_cell hW.b3 2
            have r3 : wr.cell? ⟨w.heap.size + 1 + 1 + 1, 3, none⟩ = some (.int .u8 ti) := blk_cell hW.b3 3
            have r4 : wr.cell? ⟨w.heap.size + 1 + 1 + 1, 4, none⟩ = some (.bool be) := blk_cell hW.b3 4
            have r5 : wr.cell? ⟨w.heap.size + 1 + 1 + 1, 5, none⟩ = some (.bool ze) := blk_cell hW.b3 5
            have z : ∀ j, j < 7 → ∃ v, wr.cell? ⟨w.heap.size + 1 + 1, j, none⟩ = some v := fun j hj => by
              rw [blk_cell hW.b2 j]
              exact ⟨_, Array.getElem?_eq_getElem (by simpa using hj)⟩
            obtain ⟨z0, e0⟩ := z 0 (by omega)
            obtain ⟨z1, e1⟩ := z 1 (by omega)
            obtain ⟨z2, e2⟩ := z 2 (by omega)
            obtain ⟨z3, e3⟩ := z 3 (by omega)
            obtain ⟨z4, e4⟩ := z 4 (by omega)
            obtain ⟨z5, e5⟩ := z 5 (by omega)
            obtain ⟨z6, e6⟩ := z 6 (by omega)
            have y0 := blk_free hW.b2 0
            have y1 := blk_free hW.b2 1
            have y2 := blk_free hW.b2 2
            have y3 := blk_free hW.b2 3
            have y4 := blk_free hW.b2 4
            have y5 := blk_free hW.b2 5
            have y6 := blk_free hW.b2 6
            clear z
            go_wp2_with fail
            refine bodyPost_ret (v := unV x a c ti be ze s') (by simp [results, Try.results18, go_sem, e0, e1, e2, e3, e4, e5, e6]) rfl ⟨?_, b7 hW.bl (by omega) _ _ _ _ _ _ _⟩
            exact ret_u (by rw [HT.out, Int.tmod_eq_emod_of_nonneg hk0]) (be_eq hk0 hk1 HB.out) (by rw [HZ.out, Bool.eq_iff_iff]; simp) (by rw [H'.out]; simp [*])
end Go.Proofs.Ytdmcmlajpajaaaa
namespace Go.Proofs.Ytdmcmlajpajaaaa
open Go.RowKit Go.Sx
theorem fnd_prefix (V : Nat → Int) (line : Int) (t : Bool) : ∀ {i j : Nat}, i ≤ j → fnd V line t i <+: fnd V line t j := by
  intro i j h
  induction j with
  | zero => obtain rfl : i = 0 := by omega
            exact List.prefix_refl _
  | succ j ih =>
    by_cases e : i = j + 1
    · subst e; exact List.prefix_refl _
    · rw [fnd_succ]; exact (ih (by omega)).trans (List.prefix_append _ _)
theorem fnd_at {V : Nat → Int} {line : Int} {t : Bool} {i : Nat} (h : i < 64) (ho : onL (V (4 * i)) line t = true) : (fnd V line t i).length < (fnd V line t 64).length ∧ (fnd V line t 64).getD (fnd V line t i).length 0 = i := by
  have hp := fnd_prefix V line t (show i + 1 ≤ 64 by omega)
  rw [fnd_succ, ho, if_pos rfl] at hp
  obtain ⟨r, hr⟩ := hp
  rw [← hr]
  simp [List.getD_eq_getElem?_getD]
end Go.Proofs.Ytdmcmlajpajaaaa
namespace Go.Proofs.Ytdmcmlajpajaaaa
open Go.RowKit Go.Sx
theorem ret_radr {a b : Int} {c d : Bool} (h : a = b) (h' : c = d) : Ending.returned (.tuple #[.int .u16 a, .bool c]) = Ending.returned (.tuple #[.int .u16 b, .bool d]) := by rw [h, h']
set_option maxRecDepth 100000 in
set_option maxHeartbeats 6400000 in
theorem radr_walk (b off cap : Nat) (i : Nat) (y ti lk line : Int) (s0 s1 s2 : Bool) (tall table : Bool) (w : World) (hb : b < w.heap.size) (hi64 : i < 64) (_ : 256 ≤ cap) (hl0 : 0 ≤ line) (hl1 : line ≤ 255)
    (hy0 : 0 ≤ y) (hy1 : y ≤ 255) (ht0 : 0 ≤ ti) (ht1 : ti ≤ 255) (hk0 : 0 ≤ lk) (hk1 : lk ≤ 255)
    (c0 : w.cell? ⟨b, off + 4 * i * 2, none⟩ = some (.int .u8 y)) (c1 : w.cell? ⟨b, off + 4 * i * 2 + 1, none⟩ = some (.bool s0)) (c2 : w.cell? ⟨b, off + (4 * i + 1) * 2, none⟩ = some (.int .u8 ti)) (c3 : w.cell? ⟨b, off + (4 * i + 1) * 2 + 1, none⟩ = some (.bool s1))
    (c4 : w.cell? ⟨b, off + (4 * i + 2) * 2, none⟩ = some (.int .u8 lk)) (c5 : w.cell? ⟨b, off + (4 * i + 2) * 2 + 1, none⟩ = some (.bool s2)) :
    Calls Try.prog 17 #[.slice (some ⟨b, off, none⟩) 256 cap, .int .i64 i, .int .i64 line, .bool tall, .bool table] w fun e w' => e = .returned (.tuple #[.int .u16 (adr y ti lk line tall table), .bool (s0 || (s1 || s2))]) ∧ Below w.heap.size w w' := by
  have n0 : w.heap.size ≠ b := by omega
  have n1 : w.heap.size + 1 ≠ b := by omega
  have n2 : w.heap.size + 1 + 1 ≠ b := by omega
  have m0 : b ≠ w.heap.size := by omega
  have m1 : b ≠ w.heap.size + 1 := by omega
  have m2 : b ≠ w.heap.size + 1 + 1 := by omega
  have l1 : b < w.heap.size + 1 := by omega
  have l2 : b < w.heap.size + 1 + 1 := by omega
  go_enter Try.func17, Try.ntmps17
  go_upto_region 1 with fail
  go_cut [12, 13, 14] (fun p q r wx => ∃ g1 g2 g3 : Nat, p = .pointer (some ⟨g1, 0, none⟩) ∧ q = .pointer (some ⟨g2, 0, none⟩) ∧ r = .pointer (some ⟨g3, 0, none⟩) ∧ wx.cell? ⟨g1, 0, none⟩ = some (.int .u8 y) ∧ wx.cell? ⟨g1, 1, none⟩ = some (.bool s0) ∧
    wx.cell? ⟨g2, 0, none⟩ = some (.int .u8 ti) ∧ wx.cell? ⟨g2, 1, none⟩ = some (.bool s1) ∧ wx.cell? ⟨g3, 0, none⟩ = some (.int .u8 lk) ∧ wx.cell? ⟨g3, 1, none⟩ = some (.bool s2) ∧ Below w.heap.size w wx)
  case first =>
    go_region
    all_goals
      go_wp2_with fail
      go_meet
      exact ⟨_, _, _, rfl, rfl, rfl, by simp [go_sem], by simp [go_sem], by simp [go_sem], by simp [go_sem], by simp [go_sem], by simp [go_sem], ((((Below.refl _ _).alloc (Nat.le_refl _) _).alloc (by simp) _).alloc (by simp; omega) _).drew⟩
  case rest =>
    obtain ⟨g1, g2, g3, rfl, rfl, rfl, d0, d1, d2, d3, d4, d5, hbw⟩ := hcut
    clear c0 c1 c2 c3 c4 c5
    have q1 : 0 ≤ (line + 256 - y) % 8 := by omega
    have q2 : (line + 256 - y) % 8 ≤ 7 := by omega
    have q3 : 0 ≤ (line + 256 - y) % 16 := by omega
    have q4 : (line + 256 - y) % 16 ≤ 15 := by omega
    have q5 : 0 ≤ ti % 2 := by omega
    have q6 : ti % 2 ≤ 1 := by omega
    by_cases hlk : 128 ≤ lk
    all_goals cases tall
    all_goals cases s0
    all_goals
      go_wp2_with (go_at_call 30; refine (lines_any _ _).mono ?_; rintro e w' ⟨rfl, rfl⟩)
    all_goals
      go_ret2
      refine ⟨ret_radr ?_ ?_, hbw⟩
      · unfold adr rowS hi
        simp only [Bool.false_eq_true, if_false, if_true]
        repeat' split
        all_goals first | omega | (exfalso; simp_all; done) | (exfalso; simp_all; omega)
      · first | rfl | simp [*]
end Go.Proofs.Ytdmcmlajpajaaaa
