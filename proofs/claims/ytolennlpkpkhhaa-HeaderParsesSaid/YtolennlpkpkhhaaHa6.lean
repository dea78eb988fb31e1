import Derived.Test.YtolennlpkpkhhaaHa5
namespace Go.Proofs.Ytolennlpkpkhhaa
open Go.RowKit Go.Sx
/-- A cartridge's block. -/
abbrev CB (w : World) (g : Nat) (m s p c : Int) (ba fo ve tw ow : Bool) : Prop := w.heap[g]? = some (.cells #[.int .i64 m, .int .i64 s, .int .i64 p, .int .i64 c, .bool ba, .bool fo, .bool ve, .bool tw, .bool ow] 23 (0, 0))
/-- What the octets are. -/
structure Oct (x : ByteArray) (b4 b5 b6 b7 b8 b9 : Int) : Prop where
  hs : 16 ≤ x.size
  i4 : ∀ h, ((x[4]'h).toNat : Int) = b4
  i5 : ∀ h, ((x[5]'h).toNat : Int) = b5
  i6 : ∀ h, ((x[6]'h).toNat : Int) = b6
  i7 : ∀ h, ((x[7]'h).toNat : Int) = b7
  i8 : ∀ h, ((x[8]'h).toNat : Int) = b8
  i9 : ∀ h, ((x[9]'h).toNat : Int) = b9
  r4 : 0 ≤ b4 ∧ b4 ≤ 255
  r5 : 0 ≤ b5 ∧ b5 ≤ 255
  r6 : 0 ≤ b6 ∧ b6 ≤ 255
  r7 : 0 ≤ b7 ∧ b7 ≤ 255
  r8 : 0 ≤ b8 ∧ b8 ≤ 255
  r9 : 0 ≤ b9 ∧ b9 ≤ 255
theorem bt_range (x : ByteArray) (k : Nat) : 0 ≤ bt x k ∧ bt x k ≤ 255 := by
  unfold bt
  have := (x.data.getD k 0).toNat_lt
  omega
theorem Oct.of (x : ByteArray) (hs : 16 ≤ x.size) : Oct x (bt x 4) (bt x 5) (bt x 6) (bt x 7) (bt x 8) (bt x 9) :=
  ⟨hs, fun h => bt_eq x 4 h, fun h => bt_eq x 5 h, fun h => bt_eq x 6 h, fun h => bt_eq x 7 h, fun h => bt_eq x 8 h, fun h => bt_eq x 9 h, bt_range x 4, bt_range x 5, bt_range x 6, bt_range x 7, bt_range x 8, bt_range x 9⟩
theorem by_240 (b : Int) (h : 0 ≤ b ∧ b ≤ 255) : bits BinOp.and IntKind.u8 b 240 = b / 16 * 16 := of_byte (P := fun b => bits BinOp.and IntKind.u8 b 240 = b / 16 * 16) (by decide +kernel) b h.1 h.2
theorem by_15 (b : Int) (h : 0 ≤ b ∧ b ≤ 255) : bits BinOp.and IntKind.u8 b 15 = b % 16 := of_byte (P := fun b => bits BinOp.and IntKind.u8 b 15 = b % 16) (by decide +kernel) b h.1 h.2
theorem by_12 (b : Int) (h : 0 ≤ b ∧ b ≤ 255) : (bits BinOp.and IntKind.u8 b 12 == 8) = ((b / 2 ^ 3 % 2 == 1) && !(b / 2 ^ 2 % 2 == 1)) := of_byte (P := fun b => (bits BinOp.and IntKind.u8 b 12 == 8) = ((b / 2 ^ 3 % 2 == 1) && !(b / 2 ^ 2 % 2 == 1))) (by decide +kernel) b h.1 h.2
theorem by_2 (b : Int) (h : 0 ≤ b ∧ b ≤ 255) : decide (0 < bits BinOp.and IntKind.u8 b 2) = (b / 2 ^ 1 % 2 == 1) := of_byte (P := fun b => decide (0 < bits BinOp.and IntKind.u8 b 2) = (b / 2 ^ 1 % 2 == 1)) (by decide +kernel) b h.1 h.2
theorem by_8 (b : Int) (h : 0 ≤ b ∧ b ≤ 255) : decide (0 < bits BinOp.and IntKind.u8 b 8) = (b / 2 ^ 3 % 2 == 1) := of_byte (P := fun b => decide (0 < bits BinOp.and IntKind.u8 b 8) = (b / 2 ^ 3 % 2 == 1)) (by decide +kernel) b h.1 h.2
theorem by_1 (b : Int) (h : 0 ≤ b ∧ b ≤ 255) : decide (0 < bits BinOp.and IntKind.u8 b 1) = (b / 2 ^ 0 % 2 == 1) := of_byte (P := fun b => decide (0 < bits BinOp.and IntKind.u8 b 1) = (b / 2 ^ 0 % 2 == 1)) (by decide +kernel) b h.1 h.2
theorem by_4 (b : Int) (h : 0 ≤ b ∧ b ≤ 255) : decide (0 < bits BinOp.and IntKind.u8 b 4) = (b / 2 ^ 2 % 2 == 1) := of_byte (P := fun b => decide (0 < bits BinOp.and IntKind.u8 b 4) = (b / 2 ^ 2 % 2 == 1)) (by decide +kernel) b h.1 h.2
theorem by_or (a b : Int) (h : 0 ≤ a ∧ a ≤ 255) (h' : 0 ≤ b ∧ b ≤ 255) : bits BinOp.or IntKind.u8 (a / 16) (b / 16 * 16) = a / 16 + b / 16 * 16 :=
  of_nib (P := fun q => bits BinOp.or IntKind.u8 q (b / 16 * 16) = q + b / 16 * 16) (fun q => of_nib (P := fun r => bits BinOp.or IntKind.u8 ((q.val : Nat) : Int) (r * 16) = ((q.val : Nat) : Int) + r * 16) (fun r => (by decide +kernel : ∀ (q r : Fin 16), bits BinOp.or IntKind.u8 ((q.val : Nat) : Int) (((r.val : Nat) : Int) * 16) = ((q.val : Nat) : Int) + ((r.val : Nat) : Int) * 16) q r) (b / 16) (by omega) (by omega)) (a / 16) (by omega) (by omega)
theorem by_hi (m b : Int) (h : 0 ≤ m ∧ m ≤ 255) (h' : 0 ≤ b ∧ b ≤ 255) : bits BinOp.or IntKind.i64 m (b % 16 * 256) = m + b % 16 * 256 :=
  of_byte (P := fun q => bits BinOp.or IntKind.i64 q (b % 16 * 256) = q + b % 16 * 256) (fun q => of_nib (P := fun r => bits BinOp.or IntKind.i64 ((q.val : Nat) : Int) (r * 256) = ((q.val : Nat) : Int) + r * 256) (fun r => (by decide +kernel : ∀ (q : Fin 256) (r : Fin 16), bits BinOp.or IntKind.i64 ((q.val : Nat) : Int) (((r.val : Nat) : Int) * 256) = ((q.val : Nat) : Int) + ((r.val : Nat) : Int) * 256) q r) (b % 16) (by omega) (by omega)) m h.1 h.2
theorem amtP_range (l h u : Int) (l0 : 0 ≤ l) (l1 : l ≤ 255) (h0 : 0 ≤ h) (h1 : h ≤ 15) (hu : u = 16384 ∨ u = 8192) : -1 ≤ amtP l h u ∧ amtP l h u ≤ 100000000 := by
  by_cases hh : h < 15
  · unfold amtP; rw [if_pos hh]; rcases hu with rfl | rfl <;> omega
  · have := of_byte (P := fun l => -1 ≤ amtP l 15 0 ∧ amtP l 15 0 ≤ 100000000) (by decide +kernel) l l0 l1
    have e : amtP l h u = amtP l 15 0 := by unfold amtP; rw [if_neg hh, if_neg (show ¬ ((15 : Int) < 15) by omega)]
    rw [e]; exact this
def mgB (x : ByteArray) : Bool := decide (16 ≤ x.size) && ((x.extract 0 4).toList == [78, 69, 83, 26])
def twB (b7 : Int) : Bool := (b7 / 2 ^ 3 % 2 == 1) && !(b7 / 2 ^ 2 % 2 == 1)
def mpB (b6 b7 b8 : Int) : Int := b6 / 16 + b7 / 16 * 16 + (if twB b7 then b8 % 16 * 256 else 0)
def sbB (b7 b8 : Int) : Int := if twB b7 then b8 / 16 else 0
def hpB (b7 b9 : Int) : Int := if twB b7 then b9 % 16 else 0
def hcB (b7 b9 : Int) : Int := if twB b7 then b9 / 16 else 0
/-- The error's number, with so many octets of each memory told. -/
def errB (x : ByteArray) (P C : Int) : Int :=
  let b6 := bt x 6
  let b7 := bt x 7
  let b8 := bt x 8
  let k := chk (mpB b6 b7 b8) (sbB b7 b8) P (if C = 0 then 8192 else C) (twB b7) (C == 0)
  if mgB x then (if k ≠ 0 then k else if (x.size : Int) < 16 + P + C + (if (b6 / 2 ^ 2 % 2 == 1) then 512 else 0) then 5 else 0) else 4
abbrev zeroC : Value := cartV 0 0 0 0 false false false false false
def carB (x : ByteArray) (P C : Int) : Value :=
  if errB x P C = 0 then cartV (mpB (bt x 6) (bt x 7) (bt x 8)) (sbB (bt x 7) (bt x 8)) P (if C = 0 then 8192 else C) (bt x 6 / 2 ^ 1 % 2 == 1) (bt x 6 / 2 ^ 3 % 2 == 1) (bt x 6 / 2 ^ 0 % 2 == 1) (twB (bt x 7)) (C == 0) else zeroC
def pP (x : ByteArray) : Int := amtP (bt x 4) (hpB (bt x 7) (bt x 9)) 16384
def cP (x : ByteArray) : Int := amtP (bt x 5) (hcB (bt x 7) (bt x 9)) 8192
theorem cb_set9 {w : World} {g : Nat} {a b c d e f h i j : Value} (hh : w.heap[g]? = some (.cells #[a, b, c, d, e, f, h, i, j] 23 (0, 0))) (v0 v1 v2 v3 v4 v5 v6 v7 v8 : Value) : (((((((((w.setCell ⟨g, 0, none⟩ v0).setCell ⟨g, 1, none⟩ v1).setCell ⟨g, 2, none⟩ v2).setCell ⟨g, 3, none⟩ v3).setCell ⟨g, 4, none⟩ v4).setCell ⟨g, 5, none⟩ v5).setCell ⟨g, 6, none⟩ v6).setCell ⟨g, 7, none⟩ v7).setCell ⟨g, 8, none⟩ v8).heap[g]? = some (.cells #[v0, v1, v2, v3, v4, v5, v6, v7, v8] 23 (0, 0)) := by
  have := blk_set (blk_set (blk_set (blk_set (blk_set (blk_set (blk_set (blk_set (blk_set hh 0 v0) 1 v1) 2 v2) 3 v3) 4 v4) 5 v5) 6 v6) 7 v7) 8 v8
  simpa using this
theorem oth9 {w : World} {g B : Nat} (h : B ≠ g) (v0 v1 v2 v3 v4 v5 v6 v7 v8 : Value) : (((((((((w.setCell ⟨B, 0, none⟩ v0).setCell ⟨B, 1, none⟩ v1).setCell ⟨B, 2, none⟩ v2).setCell ⟨B, 3, none⟩ v3).setCell ⟨B, 4, none⟩ v4).setCell ⟨B, 5, none⟩ v5).setCell ⟨B, 6, none⟩ v6).setCell ⟨B, 7, none⟩ v7).setCell ⟨B, 8, none⟩ v8).heap[g]? = w.heap[g]? := by
  iterate 8 refine (blk_other (by exact h) _).trans ?_
  exact blk_other (by exact h) _
theorem b9s {w0 w : World} {A B : Nat} (h : Below A w0 w) (hB : A ≤ B) (v0 v1 v2 v3 v4 v5 v6 v7 v8 : Value) : Below A w0 (((((((((w.setCell ⟨B, 0, none⟩ v0).setCell ⟨B, 1, none⟩ v1).setCell ⟨B, 2, none⟩ v2).setCell ⟨B, 3, none⟩ v3).setCell ⟨B, 4, none⟩ v4).setCell ⟨B, 5, none⟩ v5).setCell ⟨B, 6, none⟩ v6).setCell ⟨B, 7, none⟩ v7).setCell ⟨B, 8, none⟩ v8) :=
  ((((((((h.setCell (p := ⟨B, 0, none⟩) hB v0).setCell (p := ⟨B, 1, none⟩) hB v1).setCell (p := ⟨B, 2, none⟩) hB v2).setCell (p := ⟨B, 3, none⟩) hB v3).setCell (p := ⟨B, 4, none⟩) hB v4).setCell (p := ⟨B, 5, none⟩) hB v5).setCell (p := ⟨B, 6, none⟩) hB v6).setCell (p := ⟨B, 7, none⟩) hB v7).setCell (p := ⟨B, 8, none⟩) hB v8
end Go.Proofs.Ytolennlpkpkhhaa
