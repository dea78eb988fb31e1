import Derived.Test.YtdmcmlajpajaaaaSd1
namespace Go.Proofs.Ytdmcmlajpajaaaa
open Go.RowKit Go.Sx
/-- Units, field by field. -/
structure Uns where
  X : Nat → Int
  lo : Nat → Int
  hi : Nat → Int
  ti : Nat → Int
  be : Nat → Bool
  ze : Nat → Bool
  s : Nat → Bool
def Uns.C (U : Uns) (i j : Nat) : Value :=
  match j with
  | 0 => .int .u8 (U.X i) | 1 => .int .u8 (U.lo i) | 2 => .int .u8 (U.hi i) | 3 => .int .u8 (U.ti i) | 4 => .bool (U.be i) | 5 => .bool (U.ze i) | _ => .bool (U.s i)
def Uns.v (U : Uns) (x : Int) (i : Nat) : Int := dv (U.X i) (U.lo i) (U.hi i) x
structure Uns.Ok (U : Uns) (n : Nat) : Prop where
  X : ∀ i, i < n → 0 ≤ U.X i ∧ U.X i ≤ 255
  lo : ∀ i, i < n → 0 ≤ U.lo i ∧ U.lo i ≤ 255
  hi : ∀ i, i < n → 0 ≤ U.hi i ∧ U.hi i ≤ 255
  ti : ∀ i, i < n → 0 ≤ U.ti i ∧ U.ti i ≤ 255
/-- The first unit that is seen. -/
def Uns.first (U : Uns) (x : Int) (n : Nat) : Option Nat := (List.range n).find? fun i => decide (0 < U.v x i)
def Uns.dot (U : Uns) (x : Int) (n : Nat) : Int := match U.first x n with | some i => U.v x i + 4 * (U.ti i % 4) | none => 0
def Uns.back (U : Uns) (x : Int) (n : Nat) : Bool := match U.first x n with | some i => U.be i | none => false
def Uns.zero (U : Uns) (x : Int) (n : Nat) : Bool := match U.first x n with | some i => U.ze i | none => false
theorem find_first {p : Nat → Bool} {n k : Nat} (hk : k < n) (h : ∀ j, j < k → p j = false) (hp : p k = true) : (List.range n).find? p = some k := by
  rw [List.find?_range_eq_some]
  exact ⟨hp, by simpa using hk, fun j hj => by simpa using h j hj⟩
theorem find_none {p : Nat → Bool} {n : Nat} (h : ∀ j, j < n → p j = false) : (List.range n).find? p = none := by
  rw [List.find?_eq_none]
  intro x hx
  simpa using h x (by simpa using hx)
theorem first_some {U : Uns} {x : Int} {n k : Nat} (hk : k < n) (h : ∀ j, j < k → U.v x j ≤ 0) (hp : 0 < U.v x k) : U.first x n = some k := find_first hk (fun j hj => by have := h j hj; simp only [decide_eq_false_iff_not]; omega) (by simpa using hp)
theorem first_none {U : Uns} {x : Int} {n : Nat} (h : ∀ j, j < n → U.v x j ≤ 0) : U.first x n = none := find_none (fun j hj => by have := h j hj; simp only [decide_eq_false_iff_not]; omega)
theorem dot_some {U : Uns} {x : Int} {n k : Nat} (hk : k < n) (h : ∀ j, j < k → U.v x j ≤ 0) (hp : 0 < U.v x k) : U.dot x n = U.v x k + 4 * (U.ti k % 4) ∧ U.back x n = U.be k ∧ U.zero x n = U.ze k := by
  simp only [Uns.dot, Uns.back, Uns.zero, first_some hk h hp, and_self]
theorem dot_none {U : Uns} {x : Int} {n : Nat} (h : ∀ j, j < n → U.v x j ≤ 0) : U.dot x n = 0 ∧ U.back x n = false ∧ U.zero x n = false := by
  simp only [Uns.dot, Uns.back, Uns.zero, first_none h, and_self]
theorem ret3 {a b : Int} {c d e f : Bool} (h : a = b ∧ c = d ∧ e = f) : Ending.returned (.tuple #[.int .u8 a, .bool c, .bool e]) = Ending.returned (.tuple #[.int .u8 b, .bool d, .bool f]) := by
  obtain ⟨rfl, rfl, rfl⟩ := h; rfl
theorem tint (v t : Int) (hv : 0 ≤ v ∧ v ≤ 3) (ht : 0 ≤ t ∧ t ≤ 255) : bits BinOp.or IntKind.u8 v (bits BinOp.and IntKind.u8 t 3 * 4 % 256) = v + 4 * (t % 4) := by
  have key : ∀ n : Fin 256, bits BinOp.and IntKind.u8 ((n.val : Nat) : Int) 3 = ((n.val : Nat) : Int) % 4 := by decide +kernel
  have h1 := key ⟨t.toNat, by omega⟩
  simp only [Int.toNat_of_nonneg ht.1] at h1
  rw [h1]
  have e1 : v = 0 ∨ v = 1 ∨ v = 2 ∨ v = 3 := by omega
  have e2 : t % 4 = 0 ∨ t % 4 = 1 ∨ t % 4 = 2 ∨ t % 4 = 3 := by omega
  rcases e1 with e1 | e1 | e1 | e1 <;> rcases e2 with e2 | e2 | e2 | e2 <;> rw [e1, e2] <;> decide +kernel

theorem Dot_zero (ao : Option Addr) (cap : Nat) (x : Int) (w : World) : Calls Try.prog 19 #[.slice ao 0 cap, .int .i64 x] w fun e w' => e = .returned (.tuple #[.int .u8 0, .bool false, .bool false]) ∧ Below w.heap.size w w' := by
  go_enter Try.func19, Try.ntmps19
  go_wp2
  refine wp_loop_rounds 1 ?_
  rw [rounds_succ]
  go_wp2
  go_ret3
  exact ⟨rfl, Below.refl _ _⟩

set_option maxHeartbeats 800000 in
theorem Dot_some (b off n cap : Nat) (U : Uns) (x : Int) (w : World) (hb : b < w.heap.size) (hl : n ≤ 1000000) (hxr : -9223372036854775808 ≤ x) (hxr' : x ≤ 9223372036854775807) (hU : U.Ok n) (h : ∀ i, i < n → ∀ j, j < 7 → w.cell? ⟨b, off + i * 7 + j, none⟩ = some (U.C i j)) :
    Calls Try.prog 19 #[.slice (some ⟨b, off, none⟩) n cap, .int .i64 x] w fun e w' => e = .returned (.tuple #[.int .u8 (U.dot x n), .bool (U.back x n), .bool (U.zero x n)]) ∧ Below w.heap.size w w' := by
  go_enter Try.func19, Try.ntmps19
  go_wp2
  go_loopw [12] (fun i wr => ∃ k : Nat, k ≤ n ∧ i = .int .i64 k ∧ (∀ j, j < k → U.v x j ≤ 0) ∧ Below w.heap.size w wr) (fun i _ => n - (intOf i).toNat)
  case atStart => exact ⟨0, Nat.zero_le _, rfl, fun j hj => absurd hj (by omega), Below.refl _ _⟩
  case round =>
    obtain ⟨k, hk, rfl, ht0, hbl⟩ := hrel
    have ht := hidI ht0; clear ht0
    have hc : ∀ j, j < 7 → k < n → wr.cell? ⟨b, off + k * 7 + j, none⟩ = some (U.C k j) := fun j hj hlt => (hbl.cell (p := ⟨b, off + k * 7 + j, none⟩) (by exact hb)).trans (h k hlt j hj)
    have h0 := hc 0 (by omega)
    have h1 := hc 1 (by omega)
    have h2 := hc 2 (by omega)
    have h3 := hc 3 (by omega)
    have h4 := hc 4 (by omega)
    have h5 := hc 5 (by omega)
    have h6 := hc 6 (by omega)
    clear hc
    simp only [Uns.C, Nat.add_zero] at h0 h1 h2 h3 h4 h5 h6
    by_cases hlt : k < n
    · have H := hidI (And.intro (hU.X k hlt) (And.intro (hU.lo k hlt) (And.intro (hU.hi k hlt) (hU.ti k hlt))))
      obtain ⟨vk, hvk⟩ : ∃ v, v = U.v x k := ⟨_, rfl⟩
      have HV := hidI hvk; clear hvk
      go_wp2_with (go_at_call 32; refine (dot_any _ _ _ _ _ _ _ _ _ H.out.1.1 H.out.1.2 hxr hxr' H.out.2.1.1 H.out.2.1.2 H.out.2.2.1.1 H.out.2.2.1.2).mono ?_; rintro e w' ⟨rfl, hbw⟩)
      · have hbw' : Below (wr.heap.size + 1) (wr.alloc (.cells #[.int .u8 (U.X k), .int .u8 (U.lo k), .int .u8 (U.hi k), .int .u8 (U.ti k), .bool (U.be k), .bool (U.ze k), .bool (U.s k)] 44)) w' := hbw.mono (by simp)
        have q3 : w'.cell? ⟨wr.heap.size, 3, none⟩ = some (.int .u8 (U.ti k)) := (hbw'.cell (by show wr.heap.size < _; omega)).trans (by simp [go_sem])
        have q4 : w'.cell? ⟨wr.heap.size, 4, none⟩ = some (.bool (U.be k)) := (hbw'.cell (by show wr.heap.size < _; omega)).trans (by simp [go_sem])
        have q5 : w'.cell? ⟨wr.heap.size, 5, none⟩ = some (.bool (U.ze k)) := (hbw'.cell (by show wr.heap.size < _; omega)).trans (by simp [go_sem])
        have hpos : 0 < dv (U.X k) (U.lo k) (U.hi k) x := by assumption
        have P := dot_some (U := U) hlt ht.out hpos
        have T := tint (dv (U.X k) (U.lo k) (U.hi k) x) (U.ti k) (dv_le _ _ _ _) H.out.2.2.2
        have P' := hidI P; clear P
        have T' := hidI T; clear T
        have hb2 := hbl.trans (((Below.refl _ _).alloc (Nat.le_refl _) _).trans (hbw'.mono (by omega)) |>.mono hbl.size)
        clear hbw hbw'
        go_quiet (fail)
        go_wp2
        go_ret3
        exact ⟨ret3 ⟨T'.out.trans P'.out.1.symm, P'.out.2.1.symm, P'.out.2.2.symm⟩, below_drewN hb2 _⟩
      · go_roundw
        have hneg : dv (U.X k) (U.lo k) (U.hi k) x ≤ 0 := by assumption
        case rel =>
          refine ⟨k + 1, by omega, by go_num, fun j hj => ?_, hbl.trans (((Below.refl _ _).alloc (Nat.le_refl _) _).trans (hbw.mono (by simp)) |>.mono hbl.size)⟩
          by_cases e : j = k
          · rw [e]; exact hneg
          · exact ht.out j (by omega)
        case measure => simp [intOf]; omega
    · go_wp2
      go_ret3
      have hkn : k = n := by omega
      exact ⟨ret3 (by rw [← hkn]; have := dot_none ht.out; exact ⟨this.1.symm, this.2.1.symm, this.2.2.symm⟩), hbl⟩
theorem Dot_any (ao : Option Addr) (n cap : Nat) (U : Uns) (x : Int) (w : World) (hl : n ≤ 1000000) (hxr : -9223372036854775808 ≤ x) (hxr' : x ≤ 9223372036854775807) (hU : U.Ok n) (h : RowAt w ao n 7 U.C) :
    Calls Try.prog 19 #[.slice ao n cap, .int .i64 x] w fun e w' => e = .returned (.tuple #[.int .u8 (U.dot x n), .bool (U.back x n), .bool (U.zero x n)]) ∧ Below w.heap.size w w' := by
  by_cases hn : 0 < n
  · obtain ⟨b, off, rfl, hb, hc⟩ := h.some hn
    exact Dot_some b off n cap U x w hb hl hxr hxr' hU hc
  · obtain rfl : n = 0 := by omega
    obtain ⟨e1, e2, e3⟩ := dot_none (U := U) (x := x) (n := 0) (fun j hj => absurd hj (by omega))
    rw [e1, e2, e3]
    exact Dot_zero ao cap x w
end Go.Proofs.Ytdmcmlajpajaaaa
