import Derived.Test.YtolennlpkpkhhaaHa7
namespace Go.Proofs.Ytolennlpkpkhhaa
open Go.RowKit Go.Sx
theorem u8_eq (a : UInt8) (n : Nat) (h : n < 256) : a = UInt8.ofNat n ↔ (a.toNat : Int) = n := by
  constructor
  · rintro rfl; simp; omega
  · intro h'
    apply UInt8.toNat_inj.1
    simp; omega
theorem mg_bytes (x : ByteArray) (hs : 16 ≤ x.size) : ((x.extract 0 4).toList == [78, 69, 83, 26]) = decide (bt x 0 = 78 ∧ bt x 1 = 69 ∧ bt x 2 = 83 ∧ bt x 3 = 26) := by
  rw [ByteArray.toList_eq, ByteArray.data_extract]
  obtain ⟨⟨l⟩⟩ := x
  match l, hs with
  | a :: b :: c :: d :: r, _ =>
    have e1 := u8_eq a 78 (by omega)
    have e2 := u8_eq b 69 (by omega)
    have e3 := u8_eq c 83 (by omega)
    have e4 := u8_eq d 26 (by omega)
    rw [Bool.eq_iff_iff]
    simp [bt]
    rw [show (78 : UInt8) = UInt8.ofNat 78 from rfl, show (69 : UInt8) = UInt8.ofNat 69 from rfl, show (83 : UInt8) = UInt8.ofNat 83 from rfl, show (26 : UInt8) = UInt8.ofNat 26 from rfl, e1, e2, e3, e4]
    simp
  | [], h => simp [ByteArray.size] at h
  | [_], h => simp [ByteArray.size] at h
  | [_, _], h => simp [ByteArray.size] at h
  | [_, _, _], h => simp [ByteArray.size] at h
set_option maxRecDepth 100000 in
set_option maxHeartbeats 1600000 in
theorem parse_no (x : ByteArray) (hx : x.size ≤ 2000000) (w : World) (hmg : mgB x = false) : Calls Try.prog 14 #[.string x] w fun e w' => e = .returned (.tuple #[zeroC, .int .i64 4]) ∧ Below w.heap.size w w' := by
  have b0 : Below w.heap.size w (w.alloc (.cells #[.int .i64 0, .int .i64 0, .int .i64 0, .int .i64 0, .bool false, .bool false, .bool false, .bool false, .bool false] 23)) := (Below.refl _ _).alloc (Nat.le_refl _) _
  by_cases hs : x.size < 16
  · clear hmg
    go_enter Try.func14, Try.ntmps14
    go_wp2_with fail
    exact bodyPost_ret (v := .tuple #[zeroC, .int .i64 4]) (by simp [results, Try.results14, go_sem]) rfl ⟨rfl, b0⟩
  · have hm : ((x.extract 0 4).toList == [78, 69, 83, 26]) = false := by
      unfold mgB at hmg
      rw [decide_eq_true (by omega)] at hmg
      simpa using hmg
    clear hmg
    go_enter Try.func14, Try.ntmps14
    go_wp2_with fail
    exact bodyPost_ret (v := .tuple #[zeroC, .int .i64 4]) (by simp [results, Try.results14, go_sem]) rfl ⟨rfl, b0⟩
theorem car_of {K E : Int} {c : Prop} [Decidable c] (v0 v1 : Value) (h : E = if K ≠ 0 then K else if c then 5 else 0) : (if E = 0 then v1 else v0) = if K ≠ 0 then v0 else if c then v0 else v1 := by
  subst h
  by_cases h1 : K = 0
  · subst h1
    by_cases h2 : c <;> simp [h2]
  · simp [h1]
theorem parse_any (x : ByteArray) (hx : x.size ≤ 2000000) (w : World) : Calls Try.prog 14 #[.string x] w fun e w' => e = .returned (.tuple #[carB x (pP x) (cP x), .int .i64 (errB x (pP x) (cP x))]) ∧ Below w.heap.size w w' := by
  cases hmg : mgB x
  · have e1 : errB x (pP x) (cP x) = 4 := by unfold errB; rw [hmg]; simp
    have e2 : carB x (pP x) (cP x) = zeroC := by unfold carB; rw [if_neg (by rw [e1]; decide)]
    rw [e1, e2]
    exact parse_no x hx w hmg
  · have hm := hmg
    unfold mgB at hm
    rw [Bool.and_eq_true, decide_eq_true_eq] at hm
    have e1 : errB x (pP x) (cP x) = if chk (mpB (bt x 6) (bt x 7) (bt x 8)) (sbB (bt x 7) (bt x 8)) (pP x) (if cP x = 0 then 8192 else cP x) (twB (bt x 7)) (cP x == 0) ≠ 0 then chk (mpB (bt x 6) (bt x 7) (bt x 8)) (sbB (bt x 7) (bt x 8)) (pP x) (if cP x = 0 then 8192 else cP x) (twB (bt x 7)) (cP x == 0) else if (x.size : Int) < 16 + pP x + cP x + (if (bt x 6 / 2 ^ 2 % 2 == 1) then 512 else 0) then 5 else 0 := by
      unfold errB; rw [if_pos hmg]
    have e2 : carB x (pP x) (cP x) = if chk (mpB (bt x 6) (bt x 7) (bt x 8)) (sbB (bt x 7) (bt x 8)) (pP x) (if cP x = 0 then 8192 else cP x) (twB (bt x 7)) (cP x == 0) ≠ 0 then zeroC else if (x.size : Int) < 16 + pP x + cP x + (if (bt x 6 / 2 ^ 2 % 2 == 1) then 512 else 0) then zeroC else cartV (mpB (bt x 6) (bt x 7) (bt x 8)) (sbB (bt x 7) (bt x 8)) (pP x) (if cP x = 0 then 8192 else cP x) (bt x 6 / 2 ^ 1 % 2 == 1) (bt x 6 / 2 ^ 3 % 2 == 1) (bt x 6 / 2 ^ 0 % 2 == 1) (twB (bt x 7)) (cP x == 0) := by
      unfold carB
      exact car_of _ _ e1
    exact parse_yes x _ _ _ _ _ _ (Oct.of x hm.1) hx w hm.2 _ _ _ _ _ _ _ _ _ _ _ rfl rfl rfl rfl rfl rfl rfl rfl rfl rfl rfl _ rfl _ rfl _ _ e2 e1
end Go.Proofs.Ytolennlpkpkhhaa
