import Derived.Test.YtkhjfcbloahjeaaQf1
namespace Go.Proofs.Ytkhjfcbloahjeaa
open Go.RowKit Go.Sx
open Go
theorem set4s {w : World} {g : Nat} {a b c d : Value} (h : w.heap[g]? = some (.cells #[a, b, c, d] 28 (0, 0))) (v0 v1 v2 v3 : Value) : ((((w.setCell ⟨g, 0, none⟩ v0).setCell ⟨g, 1, none⟩ v1).setCell ⟨g, 2, none⟩ v2).setCell ⟨g, 3, none⟩ v3).heap[g]? = some (.cells #[v0, v1, v2, v3] 28 (0, 0)) := by
  have := blk_set (blk_set (blk_set (blk_set h 0 v0) 1 v1) 2 v2) 3 v3
  simpa using this
set_option maxRecDepth 100000 in
set_option maxHeartbeats 6400000 in
theorem more_law (p0 p1 : Bool) (ra : Option Addr) (rn rc : Nat) (sa : Option Addr) (sn sc : Nat) (q0 q1 : Bool) (ra' : Option Addr) (rn' rc' : Nat) (sa' : Option Addr) (sn' sc' : Nat) (pa : ByteArray) (aa : Option Addr) (na ca : Nat) (va ma : ByteArray) (pb : ByteArray) (ab : Option Addr) (nb cb : Nat) (vb mb : ByteArray) (fr po : Int) (F T F' T' G U G' U' A B : Nat → Int) (w : World)
    (hrc : rn ≤ rc) (hsc : sn ≤ sc) (hrc' : rn' ≤ rc') (hsc' : sn' ≤ sc') (hca : na ≤ ca) (hcb : nb ≤ cb) (hRa : RgAt w ra rn F T) (hSa : RgAt w sa sn F' T') (hRa' : RgAt w ra' rn' G U) (hSa' : RgAt w sa' sn' G' U') (hA : IntsAt w aa na A) (hB : IntsAt w ab nb B) (hAR : IntsR A na) (hBR : IntsR B nb) :
    Calls Try.prog 3 #[.agg #[.bool p0, .bool p1, .slice ra rn rc, .slice sa sn sc, .bool q0, .bool q1, .slice ra' rn' rc', .slice sa' sn' sc', .string pa, .slice aa na ca, .string va, .string ma, .string pb, .slice ab nb cb, .string vb, .string mb, .int .i64 fr, .int .i64 po]] w fun e w' => e = .returned (.bool true) ∧ Below w.heap.size w w' := by
  go_enter Try.func3, Try.ntmps3
  go_upto_region 1 with fail
  obtain ⟨w1, hw1⟩ : ∃ w1, w1 = (w.alloc (.cells #[.bool p0, .bool p1, .slice ra rn rc, .slice sa sn sc, .bool q0, .bool q1, .slice ra' rn' rc', .slice sa' sn' sc', .string pa, .slice aa na ca, .string va, .string ma, .string pb, .slice ab nb cb, .string vb, .string mb, .int .i64 fr, .int .i64 po] 30)) := ⟨_, rfl⟩
  rw [← hw1]
  have hW := hidI hw1; clear hw1
  refine wp_region_inv (fun L a wr => ∃ u3 u4 u5 u6 u8 u9 u10 u11 u12 u13 u14 u15 u16 u17 u18 u19 : Value, a = ⟨#[.agg #[.bool p0, .bool p1, .slice ra rn rc, .slice sa sn sc, .bool q0, .bool q1, .slice ra' rn' rc', .slice sa' sn' sc', .string pa, .slice aa na ca, .string va, .string ma, .string pb, .slice ab nb cb, .string vb, .string mb, .int .i64 fr, .int .i64 po], .pointer (some ⟨w.heap.size, 0, none⟩), .bool false, u3, u4, u5, u6, undef, u8, u9, u10, u11, u12, u13, u14, u15, u16, u17, u18, u19, undef, undef, undef, undef, undef, undef, undef, undef, undef, undef, undef, undef, undef, undef, undef, undef, undef, undef, undef, undef, undef, undef, undef, undef, undef, undef, undef, undef, undef, undef, undef, undef, undef, undef, undef, undef, undef, undef, undef, undef, undef, undef, undef, undef, undef, undef, undef, undef, undef, undef, undef, undef, undef, undef, undef, undef, undef, undef, undef], []⟩ ∧ J3 w w1 p0 p1 ra rn rc sa sn sc q0 q1 ra' rn' rc' sa' sn' sc' pa aa na ca va ma pb ab nb cb vb mb L wr u3 u4 u5 u6 u8 u9 u10 u11 u12 u13 u14 u15 u16 u17 u18 u19) (by kernel_rfl) (by kernel_rfl) ?h0 ?hop ?hend
  case h0 =>
    refine ⟨undef, undef, undef, undef, undef, undef, undef, undef, undef, undef, undef, undef, undef, undef, undef, undef, rfl, ?_⟩
    exact { bl := (Below.refl _ _).drew, o8 := nofun, o11 := nofun, o16 := nofun, o17 := nofun, o18 := nofun, o19 := nofun, f0 := nofun, f1 := nofun, f2 := nofun, f3 := nofun, f4 := nofun, f5 := nofun, f6 := nofun, f7 := nofun, f8 := nofun, f9 := nofun, f10 := nofun, f11 := nofun, f12 := nofun, f13 := nofun, f14 := nofun, f15 := nofun, d1 := nofun, d2 := nofun }
  case hop =>
    intro L a wr hI i o ho hLi hd K hK
    obtain ⟨u3, u4, u5, u6, u8, u9, u10, u11, u12, u13, u14, u15, u16, u17, u18, u19, rfl, hJ⟩ := hI
    have k0 : wr.heap[w.heap.size]? = some (.cells #[.bool p0, .bool p1, .slice ra rn rc, .slice sa sn sc, .bool q0, .bool q1, .slice ra' rn' rc', .slice sa' sn' sc', .string pa, .slice aa na ca, .string va, .string ma, .string pb, .slice ab nb cb, .string vb, .string mb, .int .i64 fr, .int .i64 po] 30 (0, 0)) := by
      refine (hJ.bl.block w.heap.size (by rw [hW.out]; simp)).trans ?_
      rw [hW.out]; exact blk_new _ _
    have hi : i < 20 := (Array.getElem?_eq_some_iff.1 ho).1
    have hcs : i = 0 ∨ i = 1 ∨ i = 2 ∨ i = 3 ∨ i = 4 ∨ i = 5 ∨ i = 6 ∨ i = 7 ∨ i = 8 ∨ i = 9 ∨ i = 10 ∨ i = 11 ∨ i = 12 ∨ i = 13 ∨ i = 14 ∨ i = 15 ∨ i = 16 ∨ i = 17 ∨ i = 18 ∨ i = 19 := by omega
    rcases hcs with rfl | rfl | rfl | rfl | rfl | rfl | rfl | rfl | rfl | rfl | rfl | rfl | rfl | rfl | rfl | rfl | rfl | rfl | rfl | rfl
    · injection (show some (⟨_, _, _, _, _, _⟩ : Oper) = some o from ho) with e
      subst e
      go_simp
      refine hK.out _ _ ⟨_, _, _, _, _, _, _, _, _, _, _, _, _, _, _, _, rfl, ?_⟩
      exact { hJ with f0 := fun _ => rfl }
    · injection (show some (⟨_, _, _, _, _, _⟩ : Oper) = some o from ho) with e
      subst e
      have hd : ([0].all L) = true := hd
      simp only [List.all_cons, List.all_nil, Bool.and_true] at hd
      obtain rfl := hJ.f0 hd
      have c0 : wr.cell? ⟨w.heap.size, 0, none⟩ = some (.bool p0) := blk_cell k0 0
      have c1 : wr.cell? ⟨w.heap.size, 1, none⟩ = some (.bool p1) := blk_cell k0 1
      have c2 : wr.cell? ⟨w.heap.size, 2, none⟩ = some (.slice ra rn rc) := blk_cell k0 2
      have c3 : wr.cell? ⟨w.heap.size, 3, none⟩ = some (.slice sa sn sc) := blk_cell k0 3
      go_simp
      refine hK.out _ _ ⟨_, _, _, _, _, _, _, _, _, _, _, _, _, _, _, _, rfl, ?_⟩
      exact { hJ with f1 := fun _ => rfl }
    · injection (show some (⟨_, _, _, _, _, _⟩ : Oper) = some o from ho) with e
      subst e
      have hd : ([1].all L) = true := hd
      simp only [List.all_cons, List.all_nil, Bool.and_true] at hd
      have n16 : L 16 = false := Bool.eq_false_iff.2 fun h => by rw [(hJ.o16 h).1] at hLi; cases hLi
      obtain ⟨n17, n18, n19⟩ := hJ.late n16
      obtain rfl := hJ.f1 hd
      go_simp
      refine (few3_any p0 p1 ra rn rc sa sn sc _ hrc hsc).mono ?_
      rintro e w2 ⟨rfl, hb⟩
      have h2 := hJ.below hb
      refine hK.out _ _ ⟨_, _, _, _, _, _, _, _, _, _, _, _, _, _, _, _, rfl, ?_⟩
      exact { h2 with o16 := fun a => absurd (n16.symm.trans a) (by simp), f2 := fun _ => rfl, f12 := fun a => (h2.f12 a).noval n16 }
    · injection (show some (⟨_, _, _, _, _, _⟩ : Oper) = some o from ho) with e
      subst e
      go_simp
      refine hK.out _ _ ⟨_, _, _, _, _, _, _, _, _, _, _, _, _, _, _, _, rfl, ?_⟩
      exact { hJ with f3 := fun _ => rfl }
    · injection (show some (⟨_, _, _, _, _, _⟩ : Oper) = some o from ho) with e
      subst e
      have hd : ([3].all L) = true := hd
      simp only [List.all_cons, List.all_nil, Bool.and_true] at hd
      obtain rfl := hJ.f3 hd
      have c0 : wr.cell? ⟨w.heap.size, 4, none⟩ = some (.bool q0) := blk_cell k0 4
      have c1 : wr.cell? ⟨w.heap.size, 5, none⟩ = some (.bool q1) := blk_cell k0 5
      have c2 : wr.cell? ⟨w.heap.size, 6, none⟩ = some (.slice ra' rn' rc') := blk_cell k0 6
      have c3 : wr.cell? ⟨w.heap.size, 7, none⟩ = some (.slice sa' sn' sc') := blk_cell k0 7
      go_simp
      refine hK.out _ _ ⟨_, _, _, _, _, _, _, _, _, _, _, _, _, _, _, _, rfl, ?_⟩
      exact { hJ with f4 := fun _ => rfl }
    · injection (show some (⟨_, _, _, _, _, _⟩ : Oper) = some o from ho) with e
      subst e
      have hd : ([4, 2].all L) = true := hd
      simp only [List.all_cons, List.all_nil, Bool.and_eq_true, Bool.and_true] at hd
      have n16 : L 16 = false := Bool.eq_false_iff.2 fun h => by rw [(hJ.o16 h).2.1] at hLi; cases hLi
      obtain ⟨n17, n18, n19⟩ := hJ.late n16
      obtain rfl := hJ.f4 hd.1
      go_simp
      refine (few3_any q0 q1 ra' rn' rc' sa' sn' sc' _ hrc' hsc').mono ?_
      rintro e w2 ⟨rfl, hb⟩
      have h2 := hJ.below hb
      refine hK.out _ _ ⟨_, _, _, _, _, _, _, _, _, _, _, _, _, _, _, _, rfl, ?_⟩
      exact { h2 with o8 := fun _ => rfl, o16 := fun a => absurd (n16.symm.trans a) (by simp), f5 := fun _ => rfl, f13 := fun a => (h2.f13 a).noval n17 }
    · injection (show some (⟨_, _, _, _, _, _⟩ : Oper) = some o from ho) with e
      subst e
      go_simp
      refine hK.out _ _ ⟨_, _, _, _, _, _, _, _, _, _, _, _, _, _, _, _, rfl, ?_⟩
      exact { hJ with f6 := fun _ => rfl }
    · injection (show some (⟨_, _, _, _, _, _⟩ : Oper) = some o from ho) with e
      subst e
      have hd : ([6].all L) = true := hd
      simp only [List.all_cons, List.all_nil, Bool.and_true] at hd
      obtain rfl := hJ.f6 hd
      have c0 : wr.cell? ⟨w.heap.size, 8, none⟩ = some (.string pa) := blk_cell k0 8
      have c1 : wr.cell? ⟨w.heap.size, 9, none⟩ = some (.slice aa na ca) := blk_cell k0 9
      have c2 : wr.cell? ⟨w.heap.size, 10, none⟩ = some (.string va) := blk_cell k0 10
      have c3 : wr.cell? ⟨w.heap.size, 11, none⟩ = some (.string ma) := blk_cell k0 11
      go_simp
      refine hK.out _ _ ⟨_, _, _, _, _, _, _, _, _, _, _, _, _, _, _, _, rfl, ?_⟩
      exact { hJ with f7 := fun _ => rfl }
    · injection (show some (⟨_, _, _, _, _, _⟩ : Oper) = some o from ho) with e
      subst e
      have hd : ([7, 5].all L) = true := hd
      simp only [List.all_cons, List.all_nil, Bool.and_eq_true, Bool.and_true] at hd
      have n16 : L 16 = false := Bool.eq_false_iff.2 fun h => by rw [(hJ.o16 h).2.2.1] at hLi; cases hLi
      obtain ⟨n17, n18, n19⟩ := hJ.late n16
      obtain rfl := hJ.f7 hd.1
      go_simp
      refine (few_any pa aa na ca va ma _ hca).mono ?_
      rintro e w2 ⟨⟨p', n', s', m', rfl, hx⟩, hb⟩
      have h2 := hJ.below hb
      refine hK.out _ _ ⟨_, _, _, _, _, _, _, _, _, _, _, _, _, _, _, _, rfl, ?_⟩
      exact { h2 with o8 := fun _ => hd.2, o11 := fun _ => rfl, o16 := fun a => absurd (n16.symm.trans a) (by simp), f8 := fun _ => ⟨p', n', s', m', rfl, hx⟩, f14 := fun a => (h2.f14 a).noval n18 }
    · injection (show some (⟨_, _, _, _, _, _⟩ : Oper) = some o from ho) with e
      subst e
      go_simp
      refine hK.out _ _ ⟨_, _, _, _, _, _, _, _, _, _, _, _, _, _, _, _, rfl, ?_⟩
      exact { hJ with f9 := fun _ => rfl }
    · injection (show some (⟨_, _, _, _, _, _⟩ : Oper) = some o from ho) with e
      subst e
      have hd : ([9].all L) = true := hd
      simp only [List.all_cons, List.all_nil, Bool.and_true] at hd
      obtain rfl := hJ.f9 hd
      have c0 : wr.cell? ⟨w.heap.size, 12, none⟩ = some (.string pb) := blk_cell k0 12
      have c1 : wr.cell? ⟨w.heap.size, 13, none⟩ = some (.slice ab nb cb) := blk_cell k0 13
      have c2 : wr.cell? ⟨w.heap.size, 14, none⟩ = some (.string vb) := blk_cell k0 14
      have c3 : wr.cell? ⟨w.heap.size, 15, none⟩ = some (.string mb) := blk_cell k0 15
      go_simp
      refine hK.out _ _ ⟨_, _, _, _, _, _, _, _, _, _, _, _, _, _, _, _, rfl, ?_⟩
      exact { hJ with f10 := fun _ => rfl }
    · injection (show some (⟨_, _, _, _, _, _⟩ : Oper) = some o from ho) with e
      subst e
      have hd : ([10, 8].all L) = true := hd
      simp only [List.all_cons, List.all_nil, Bool.and_eq_true, Bool.and_true] at hd
      have n16 : L 16 = false := Bool.eq_false_iff.2 fun h => by rw [(hJ.o16 h).2.2.2.1] at hLi; cases hLi
      obtain ⟨n17, n18, n19⟩ := hJ.late n16
      obtain rfl := hJ.f10 hd.1
      go_simp
      refine (few_any pb ab nb cb vb mb _ hcb).mono ?_
      rintro e w2 ⟨⟨p', n', s', m', rfl, hx⟩, hb⟩
      have h2 := hJ.below hb
      refine hK.out _ _ ⟨_, _, _, _, _, _, _, _, _, _, _, _, _, _, _, _, rfl, ?_⟩
      exact { h2 with o11 := fun _ => hd.2, o16 := fun a => absurd (n16.symm.trans a) (by simp), f11 := fun _ => ⟨p', n', s', m', rfl, hx⟩, f15 := fun a => (h2.f15 a).noval n19 }
    · injection (show some (⟨_, _, _, _, _, _⟩ : Oper) = some o from ho) with e
      subst e
      have n16 : L 16 = false := Bool.eq_false_iff.2 fun h => by rw [(hJ.o16 h).2.2.2.2.1] at hLi; cases hLi
      obtain ⟨n17, n18, n19⟩ := hJ.late n16
      go_simp
      refine hK.out _ _ ⟨_, _, _, _, _, _, _, _, _, _, _, _, _, _, _, _, rfl, ?_⟩
      exact { hJ.below ((Below.refl _ _).alloc (Nat.le_refl _) _) with o16 := fun a => absurd (n16.symm.trans a) (by simp), f12 := fun _ => Slot.new wr _ 25 Z25 _ _ hJ.bl.size n16, d1 := fun _ b => (hJ.f13 b).ne_new.symm }
    · injection (show some (⟨_, _, _, _, _, _⟩ : Oper) = some o from ho) with e
      subst e
      have n16 : L 16 = false := Bool.eq_false_iff.2 fun h => by rw [(hJ.o16 h).2.2.2.2.2.1] at hLi; cases hLi
      obtain ⟨n17, n18, n19⟩ := hJ.late n16
      go_simp
      refine hK.out _ _ ⟨_, _, _, _, _, _, _, _, _, _, _, _, _, _, _, _, rfl, ?_⟩
      exact { hJ.below ((Below.refl _ _).alloc (Nat.le_refl _) _) with o16 := fun a => absurd (n16.symm.trans a) (by simp), f13 := fun _ => Slot.new wr _ 25 Z25 _ _ hJ.bl.size n17, d1 := fun b _ => (hJ.f12 b).ne_new }
    · injection (show some (⟨_, _, _, _, _, _⟩ : Oper) = some o from ho) with e
      subst e
      have n16 : L 16 = false := Bool.eq_false_iff.2 fun h => by rw [(hJ.o16 h).2.2.2.2.2.2.1] at hLi; cases hLi
      obtain ⟨n17, n18, n19⟩ := hJ.late n16
      go_simp
      refine hK.out _ _ ⟨_, _, _, _, _, _, _, _, _, _, _, _, _, _, _, _, rfl, ?_⟩
      exact { hJ.below ((Below.refl _ _).alloc (Nat.le_refl _) _) with o16 := fun a => absurd (n16.symm.trans a) (by simp), f14 := fun _ => Slot.new wr _ 28 Z28 _ _ hJ.bl.size n18, d2 := fun _ b => (hJ.f15 b).ne_new.symm }
    · injection (show some (⟨_, _, _, _, _, _⟩ : Oper) = some o from ho) with e
      subst e
      have n16 : L 16 = false := Bool.eq_false_iff.2 fun h => by rw [(hJ.o16 h).2.2.2.2.2.2.2] at hLi; cases hLi
      obtain ⟨n17, n18, n19⟩ := hJ.late n16
      go_simp
      refine hK.out _ _ ⟨_, _, _, _, _, _, _, _, _, _, _, _, _, _, _, _, rfl, ?_⟩
      exact { hJ.below ((Below.refl _ _).alloc (Nat.le_refl _) _) with o16 := fun a => absurd (n16.symm.trans a) (by simp), f15 := fun _ => Slot.new wr _ 28 Z28 _ _ hJ.bl.size n19, d2 := fun b _ => (hJ.f14 b).ne_new }
    · injection (show some (⟨_, _, _, _, _, _⟩ : Oper) = some o from ho) with e
      subst e
      have hd : ([12, 2, 11, 0, 1, 2, 12, 13, 14, 15].all L) = true := hd
      simp only [List.all_cons, List.all_nil, Bool.and_eq_true, Bool.and_true] at hd
      have l8 := hJ.o11 (hd.2.2.1)
      have l5 := hJ.o8 l8
      have ll : L 2 = true ∧ L 5 = true ∧ L 8 = true ∧ L 11 = true ∧ L 12 = true ∧ L 13 = true ∧ L 14 = true ∧ L 15 = true := ⟨(hd.2.1), l5, l8, (hd.2.2.1), (hd.1), (hd.2.2.2.2.2.2.2.1), (hd.2.2.2.2.2.2.2.2.1), (hd.2.2.2.2.2.2.2.2.2)⟩
      obtain ⟨l2, l5', l8', l11, l12, l13, l14, l15⟩ := ll
      obtain rfl := hJ.f2 l2
      have S12 := hJ.f12 l12
      have S13 := hJ.f13 l13
      have S14 := hJ.f14 l14
      have S15 := hJ.f15 l15
      obtain ⟨g, rfl, hg1, hg2, hg⟩ := S12
      rw [hLi] at hg
      have hg : wr.heap[g]? = some (.cells Z25 25 (0, 0)) := hg
      have c0 : wr.cell? ⟨g, 0, none⟩ = some (.bool false) := blk_cell hg 0
      have z0 := blk_free hg 0
      have c1 : wr.cell? ⟨g, 1, none⟩ = some (.bool false) := blk_cell hg 1
      have z1 := blk_free hg 1
      have c2 : wr.cell? ⟨g, 2, none⟩ = some (.slice none 0 0) := blk_cell hg 2
      have z2 := blk_free hg 2
      have c3 : wr.cell? ⟨g, 3, none⟩ = some (.slice none 0 0) := blk_cell hg 3
      have z3 := blk_free hg 3
      go_simp
      refine hK.out _ _ ⟨_, _, _, _, _, _, _, _, _, _, _, _, _, _, _, _, rfl, ?_⟩
      exact { hJ with bl := b4 hJ.bl hg1 _ _ _ _, o16 := fun _ => ⟨l2, l5', l8', l11, l12, l13, l14, l15⟩, o17 := fun _ => rfl, f12 := fun _ => ⟨g, rfl, hg1, by simp; exact hg2, set4 hg _ _ _ _⟩, f13 := fun _ => S13.other (by simp) (fun k E => oth4 (fun e => by subst e; exact (hJ.d1 l12 l13 E.symm)) _ _ _ _), f14 := fun _ => S14.other (by simp) (fun k E => oth4 (fun e => by subst e; obtain ⟨g', e', _, _, h3⟩ := S14; rw [E] at e'; cases e'; rw [hg] at h3; injection h3 with h3; injection h3 with _ h3; cases h3) _ _ _ _), f15 := fun _ => S15.other (by simp) (fun k E => oth4 (fun e => by subst e; obtain ⟨g', e', _, _, h3⟩ := S15; rw [E] at e'; cases e'; rw [hg] at h3; injection h3 with h3; injection h3 with _ h3; cases h3) _ _ _ _) }
    · injection (show some (⟨_, _, _, _, _, _⟩ : Oper) = some o from ho) with e
      subst e
      have hd : ([13, 5, 16, 0, 1, 2, 3, 4, 5, 12, 13, 14, 15, 16].all L) = true := hd
      simp only [List.all_cons, List.all_nil, Bool.and_eq_true, Bool.and_true] at hd
      have ll := hJ.o16 (hd.2.2.1)
      obtain ⟨l2, l5', l8', l11, l12, l13, l14, l15⟩ := ll
      obtain rfl := hJ.f5 l5'
      have S12 := hJ.f12 l12
      have S13 := hJ.f13 l13
      have S14 := hJ.f14 l14
      have S15 := hJ.f15 l15
      obtain ⟨g, rfl, hg1, hg2, hg⟩ := S13
      rw [hLi] at hg
      have hg : wr.heap[g]? = some (.cells Z25 25 (0, 0)) := hg
      have c0 : wr.cell? ⟨g, 0, none⟩ = some (.bool false) := blk_cell hg 0
      have z0 := blk_free hg 0
      have c1 : wr.cell? ⟨g, 1, none⟩ = some (.bool false) := blk_cell hg 1
      have z1 := blk_free hg 1
      have c2 : wr.cell? ⟨g, 2, none⟩ = some (.slice none 0 0) := blk_cell hg 2
      have z2 := blk_free hg 2
      have c3 : wr.cell? ⟨g, 3, none⟩ = some (.slice none 0 0) := blk_cell hg 3
      have z3 := blk_free hg 3
      go_simp
      refine hK.out _ _ ⟨_, _, _, _, _, _, _, _, _, _, _, _, _, _, _, _, rfl, ?_⟩
      exact { hJ with bl := b4 hJ.bl hg1 _ _ _ _, o17 := fun _ => hd.2.2.1, o18 := fun _ => rfl, f13 := fun _ => ⟨g, rfl, hg1, by simp; exact hg2, set4 hg _ _ _ _⟩, f12 := fun _ => S12.other (by simp) (fun k E => oth4 (fun e => by subst e; exact (hJ.d1 l12 l13 E)) _ _ _ _), f14 := fun _ => S14.other (by simp) (fun k E => oth4 (fun e => by subst e; obtain ⟨g', e', _, _, h3⟩ := S14; rw [E] at e'; cases e'; rw [hg] at h3; injection h3 with h3; injection h3 with _ h3; cases h3) _ _ _ _), f15 := fun _ => S15.other (by simp) (fun k E => oth4 (fun e => by subst e; obtain ⟨g', e', _, _, h3⟩ := S15; rw [E] at e'; cases e'; rw [hg] at h3; injection h3 with h3; injection h3 with _ h3; cases h3) _ _ _ _) }
    · injection (show some (⟨_, _, _, _, _, _⟩ : Oper) = some o from ho) with e
      subst e
      have hd : ([14, 8, 17, 0, 1, 2, 3, 4, 5, 6, 7, 8, 12, 13, 14, 15, 16, 17].all L) = true := hd
      simp only [List.all_cons, List.all_nil, Bool.and_eq_true, Bool.and_true] at hd
      have ll := hJ.o16 (hJ.o17 (hd.2.2.1))
      obtain ⟨l2, l5', l8', l11, l12, l13, l14, l15⟩ := ll
      obtain ⟨p', n', s', m', rfl, hx⟩ := hJ.f8 l8'
      have S12 := hJ.f12 l12
      have S13 := hJ.f13 l13
      have S14 := hJ.f14 l14
      have S15 := hJ.f15 l15
      obtain ⟨g, rfl, hg1, hg2, hg⟩ := S14
      rw [hLi] at hg
      have hg : wr.heap[g]? = some (.cells Z28 28 (0, 0)) := hg
      have c0 : wr.cell? ⟨g, 0, none⟩ = some (.string ⟨#[]⟩) := blk_cell hg 0
      have z0 := blk_free hg 0
      have c1 : wr.cell? ⟨g, 1, none⟩ = some (.slice none 0 0) := blk_cell hg 1
      have z1 := blk_free hg 1
      have c2 : wr.cell? ⟨g, 2, none⟩ = some (.string ⟨#[]⟩) := blk_cell hg 2
      have z2 := blk_free hg 2
      have c3 : wr.cell? ⟨g, 3, none⟩ = some (.string ⟨#[]⟩) := blk_cell hg 3
      have z3 := blk_free hg 3
      go_simp
      refine hK.out _ _ ⟨_, _, _, _, _, _, _, _, _, _, _, _, _, _, _, _, rfl, ?_⟩
      exact { hJ with bl := b4 hJ.bl hg1 _ _ _ _, o18 := fun _ => hd.2.2.1, o19 := fun _ => rfl, f14 := fun _ => ⟨g, rfl, hg1, by simp; exact hg2, set4s hg _ _ _ _⟩, f12 := fun _ => S12.other (by simp) (fun k E => oth4 (fun e => by subst e; obtain ⟨g', e', _, _, h3⟩ := S12; rw [E] at e'; cases e'; rw [hg] at h3; injection h3 with h3; injection h3 with _ h3; cases h3) _ _ _ _), f13 := fun _ => S13.other (by simp) (fun k E => oth4 (fun e => by subst e; obtain ⟨g', e', _, _, h3⟩ := S13; rw [E] at e'; cases e'; rw [hg] at h3; injection h3 with h3; injection h3 with _ h3; cases h3) _ _ _ _), f15 := fun _ => S15.other (by simp) (fun k E => oth4 (fun e => by subst e; exact (hJ.d2 l14 l15 E.symm)) _ _ _ _) }
    · injection (show some (⟨_, _, _, _, _, _⟩ : Oper) = some o from ho) with e
      subst e
      have hd : ([15, 11, 18, 0, 1, 2, 3, 4, 5, 6, 7, 8, 9, 10, 11, 12, 13, 14, 15, 16, 17, 18].all L) = true := hd
      simp only [List.all_cons, List.all_nil, Bool.and_eq_true, Bool.and_true] at hd
      have ll := hJ.o16 (hJ.o17 (hJ.o18 (hd.2.2.1)))
      obtain ⟨l2, l5', l8', l11, l12, l13, l14, l15⟩ := ll
      obtain ⟨p', n', s', m', rfl, hx⟩ := hJ.f11 l11
      have S12 := hJ.f12 l12
      have S13 := hJ.f13 l13
      have S14 := hJ.f14 l14
      have S15 := hJ.f15 l15
      obtain ⟨g, rfl, hg1, hg2, hg⟩ := S15
      rw [hLi] at hg
      have hg : wr.heap[g]? = some (.cells Z28 28 (0, 0)) := hg
      have c0 : wr.cell? ⟨g, 0, none⟩ = some (.string ⟨#[]⟩) := blk_cell hg 0
      have z0 := blk_free hg 0
      have c1 : wr.cell? ⟨g, 1, none⟩ = some (.slice none 0 0) := blk_cell hg 1
      have z1 := blk_free hg 1
      have c2 : wr.cell? ⟨g, 2, none⟩ = some (.string ⟨#[]⟩) := blk_cell hg 2
      have z2 := blk_free hg 2
      have c3 : wr.cell? ⟨g, 3, none⟩ = some (.string ⟨#[]⟩) := blk_cell hg 3
      have z3 := blk_free hg 3
      go_simp
      refine hK.out _ _ ⟨_, _, _, _, _, _, _, _, _, _, _, _, _, _, _, _, rfl, ?_⟩
      exact { hJ with bl := b4 hJ.bl hg1 _ _ _ _, o19 := fun _ => hd.2.2.1, f15 := fun _ => ⟨g, rfl, hg1, by simp; exact hg2, set4s hg _ _ _ _⟩, f12 := fun _ => S12.other (by simp) (fun k E => oth4 (fun e => by subst e; obtain ⟨g', e', _, _, h3⟩ := S12; rw [E] at e'; cases e'; rw [hg] at h3; injection h3 with h3; injection h3 with _ h3; cases h3) _ _ _ _), f13 := fun _ => S13.other (by simp) (fun k E => oth4 (fun e => by subst e; obtain ⟨g', e', _, _, h3⟩ := S13; rw [E] at e'; cases e'; rw [hg] at h3; injection h3 with h3; injection h3 with _ h3; cases h3) _ _ _ _), f14 := fun _ => S14.other (by simp) (fun k E => oth4 (fun e => by subst e; exact (hJ.d2 l14 l15 E)) _ _ _ _) }
  case hend =>
    intro L a wr hall hI
    obtain ⟨u3, u4, u5, u6, u8, u9, u10, u11, u12, u13, u14, u15, u16, u17, u18, u19, rfl, hJ⟩ := hI
    have l : ∀ i, i < 20 → L i = true := fun i hi => List.all_eq_true.1 hall i (by simpa using hi)
    obtain ⟨pa', na', va', ma', rfl, hpa', hna', hnaa', hva', hma'⟩ := hJ.f8 (l 8 (by omega))
    obtain ⟨pb', nb', vb', mb', rfl, hpb', hnb', hnbb', hvb', hmb'⟩ := hJ.f11 (l 11 (by omega))
    obtain rfl := hJ.f2 (l 2 (by omega))
    obtain rfl := hJ.f5 (l 5 (by omega))
    have hbl := hJ.bl
    have b1 : Below w.heap.size w w1 := by rw [hW.out]; exact (Below.refl _ _).alloc (Nat.le_refl _) _
    have hs1 : w.heap.size ≤ w1.heap.size := b1.size
    obtain ⟨g3, rfl, r3, s3, e3⟩ := hJ.f12 (l 12 (by omega))
    obtain ⟨g4, rfl, r4, s4, e4⟩ := hJ.f13 (l 13 (by omega))
    obtain ⟨g5, rfl, r5, s5, e5⟩ := hJ.f14 (l 14 (by omega))
    obtain ⟨g6, rfl, r6, s6, e6⟩ := hJ.f15 (l 15 (by omega))
    rw [l 16 (by omega)] at e3
    rw [l 17 (by omega)] at e4
    rw [l 18 (by omega)] at e5
    rw [l 19 (by omega)] at e6
    have T0 : Qua w wr g3 g4 g5 g6 p0 p1 ra (min rn 20) rc sa (min sn 20) sc q0 q1 ra' (min rn' 20) rc' sa' (min sn' 20) sc' pa' aa na' ca va' ma' pb' ab nb' cb vb' mb' := ⟨e3, e4, e5, e6, b1.trans (hbl.mono hs1)⟩
    clear e3 e4 e5 e6 hJ hbl b1 hall l hs1 r3 r4 r5 r6 s3 s4 s5 s6
    clear hW
    have hPol : PolAt w ra (min rn 20) rc sa (min sn 20) sc F T F' T' := ⟨fun i hi => hRa i (by omega), fun i hi => hSa i (by omega), by omega, by omega⟩
    have hQol : PolAt w ra' (min rn' 20) rc' sa' (min sn' 20) sc' G U G' U' := ⟨fun i hi => hRa' i (by omega), fun i hi => hSa' i (by omega), by omega, by omega⟩
    have hIA : IntsAt w aa na' A := fun i hi => hA i (by omega)
    have hIB : IntsAt w ab nb' B := fun i hi => hB i (by omega)
    have hIAR : IntsR A na' := ⟨fun i hi => hAR.b i (by omega)⟩
    have hIBR : IntsR B nb' := ⟨fun i hi => hBR.b i (by omega)⟩
    clear hRa hSa hRa' hSa' hA hB hAR hBR hnaa' hnbb' hrc hsc hrc' hsc' hca hcb
    obtain ⟨n1, hn1⟩ : ∃ m, m = min rn 20 := ⟨_, rfl⟩
    obtain ⟨n2, hn2⟩ : ∃ m, m = min sn 20 := ⟨_, rfl⟩
    obtain ⟨n3, hn3⟩ : ∃ m, m = min rn' 20 := ⟨_, rfl⟩
    obtain ⟨n4, hn4⟩ : ∃ m, m = min sn' 20 := ⟨_, rfl⟩
    rw [← hn1, ← hn2] at T0 hPol
    rw [← hn3, ← hn4] at T0 hQol
    rw [← hn1, ← hn2, ← hn3, ← hn4]
    have hm1 : n1 ≤ 20 := by omega
    have hm2 : n2 ≤ 20 := by omega
    have hm3 : n3 ≤ 20 := by omega
    have hm4 : n4 ≤ 20 := by omega
    clear hn1 hn2 hn3 hn4
    have c0 : wr.cell? ⟨g3, 0, none⟩ = some (.bool p0) := blk_cell T0.P 0
    have c1 : wr.cell? ⟨g3, 1, none⟩ = some (.bool p1) := blk_cell T0.P 1
    have c2 : wr.cell? ⟨g3, 2, none⟩ = some (.slice ra n1 rc) := blk_cell T0.P 2
    have c3 : wr.cell? ⟨g3, 3, none⟩ = some (.slice sa n2 sc) := blk_cell T0.P 3
    have x0 : wr.cell? ⟨g4, 0, none⟩ = some (.bool q0) := blk_cell T0.Q 0
    have x1 : wr.cell? ⟨g4, 1, none⟩ = some (.bool q1) := blk_cell T0.Q 1
    have x2 : wr.cell? ⟨g4, 2, none⟩ = some (.slice ra' n3 rc') := blk_cell T0.Q 2
    have x3 : wr.cell? ⟨g4, 3, none⟩ = some (.slice sa' n4 sc') := blk_cell T0.Q 3
    have d0 : wr.cell? ⟨g5, 0, none⟩ = some (.string pa') := blk_cell T0.A 0
    have d1 : wr.cell? ⟨g5, 1, none⟩ = some (.slice aa na' ca) := blk_cell T0.A 1
    have d2 : wr.cell? ⟨g5, 2, none⟩ = some (.string va') := blk_cell T0.A 2
    have d3 : wr.cell? ⟨g5, 3, none⟩ = some (.string ma') := blk_cell T0.A 3
    have u0 : wr.cell? ⟨g6, 0, none⟩ = some (.string pb') := blk_cell T0.B 0
    have u1 : wr.cell? ⟨g6, 1, none⟩ = some (.slice ab nb' cb) := blk_cell T0.B 1
    have u2 : wr.cell? ⟨g6, 2, none⟩ = some (.string vb') := blk_cell T0.B 2
    have u3 : wr.cell? ⟨g6, 3, none⟩ = some (.string mb') := blk_cell T0.B 3
    cases e1 : mayPB n1 n2 F T F' T'
    · have Q1 := hidI e1; clear e1
      go_wp2_with fail
      refine (may3_any p0 p1 ra n1 rc sa n2 sc F T F' T' _ (hPol.below T0.bl)).mono ?_
      rw [Q1.out]
      rintro e w1 ⟨rfl, b1⟩
      have T1 := T0.below b1
      clear b1 T0
      clear c0 c1 c2 c3 x0 x1 x2 x3 d0 d1 d2 d3 u0 u1 u2 u3
      have c0 : w1.cell? ⟨g3, 0, none⟩ = some (.bool p0) := blk_cell T1.P 0
      have c1 : w1.cell? ⟨g3, 1, none⟩ = some (.bool p1) := blk_cell T1.P 1
      have c2 : w1.cell? ⟨g3, 2, none⟩ = some (.slice ra n1 rc) := blk_cell T1.P 2
      have c3 : w1.cell? ⟨g3, 3, none⟩ = some (.slice sa n2 sc) := blk_cell T1.P 3
      have x0 : w1.cell? ⟨g4, 0, none⟩ = some (.bool q0) := blk_cell T1.Q 0
      have x1 : w1.cell? ⟨g4, 1, none⟩ = some (.bool q1) := blk_cell T1.Q 1
      have x2 : w1.cell? ⟨g4, 2, none⟩ = some (.slice ra' n3 rc') := blk_cell T1.Q 2
      have x3 : w1.cell? ⟨g4, 3, none⟩ = some (.slice sa' n4 sc') := blk_cell T1.Q 3
      have d0 : w1.cell? ⟨g5, 0, none⟩ = some (.string pa') := blk_cell T1.A 0
      have d1 : w1.cell? ⟨g5, 1, none⟩ = some (.slice aa na' ca) := blk_cell T1.A 1
      have d2 : w1.cell? ⟨g5, 2, none⟩ = some (.string va') := blk_cell T1.A 2
      have d3 : w1.cell? ⟨g5, 3, none⟩ = some (.string ma') := blk_cell T1.A 3
      have u0 : w1.cell? ⟨g6, 0, none⟩ = some (.string pb') := blk_cell T1.B 0
      have u1 : w1.cell? ⟨g6, 1, none⟩ = some (.slice ab nb' cb) := blk_cell T1.B 1
      have u2 : w1.cell? ⟨g6, 2, none⟩ = some (.string vb') := blk_cell T1.B 2
      have u3 : w1.cell? ⟨g6, 3, none⟩ = some (.string mb') := blk_cell T1.B 3
      go_wp2_with fail
      refine (awake_any _).mono ?_
      rintro e wz ⟨rfl, bz⟩
      go_wp2
      go_ret
      exact ⟨rfl, T1.bl.trans (bz.mono T1.bl.size)⟩
    · have Q1 := hidI e1; clear e1
      cases e2 : mayPB n3 n4 G U G' U'
      · have Q2 := hidI e2; clear e2
        go_wp2_with fail
        refine (may3_any p0 p1 ra n1 rc sa n2 sc F T F' T' _ (hPol.below T0.bl)).mono ?_
        rw [Q1.out]
        rintro e w1 ⟨rfl, b1⟩
        have T1 := T0.below b1
        clear b1 T0
        clear c0 c1 c2 c3 x0 x1 x2 x3 d0 d1 d2 d3 u0 u1 u2 u3
        have c0 : w1.cell? ⟨g3, 0, none⟩ = some (.bool p0) := blk_cell T1.P 0
        have c1 : w1.cell? ⟨g3, 1, none⟩ = some (.bool p1) := blk_cell T1.P 1
        have c2 : w1.cell? ⟨g3, 2, none⟩ = some (.slice ra n1 rc) := blk_cell T1.P 2
        have c3 : w1.cell? ⟨g3, 3, none⟩ = some (.slice sa n2 sc) := blk_cell T1.P 3
        have x0 : w1.cell? ⟨g4, 0, none⟩ = some (.bool q0) := blk_cell T1.Q 0
        have x1 : w1.cell? ⟨g4, 1, none⟩ = some (.bool q1) := blk_cell T1.Q 1
        have x2 : w1.cell? ⟨g4, 2, none⟩ = some (.slice ra' n3 rc') := blk_cell T1.Q 2
        have x3 : w1.cell? ⟨g4, 3, none⟩ = some (.slice sa' n4 sc') := blk_cell T1.Q 3
        have d0 : w1.cell? ⟨g5, 0, none⟩ = some (.string pa') := blk_cell T1.A 0
        have d1 : w1.cell? ⟨g5, 1, none⟩ = some (.slice aa na' ca) := blk_cell T1.A 1
        have d2 : w1.cell? ⟨g5, 2, none⟩ = some (.string va') := blk_cell T1.A 2
        have d3 : w1.cell? ⟨g5, 3, none⟩ = some (.string ma') := blk_cell T1.A 3
        have u0 : w1.cell? ⟨g6, 0, none⟩ = some (.string pb') := blk_cell T1.B 0
        have u1 : w1.cell? ⟨g6, 1, none⟩ = some (.slice ab nb' cb) := blk_cell T1.B 1
        have u2 : w1.cell? ⟨g6, 2, none⟩ = some (.string vb') := blk_cell T1.B 2
        have u3 : w1.cell? ⟨g6, 3, none⟩ = some (.string mb') := blk_cell T1.B 3
        go_wp2_with fail
        refine (may3_any q0 q1 ra' n3 rc' sa' n4 sc' G U G' U' _ (hQol.below T1.bl)).mono ?_
        rw [Q2.out]
        rintro e w2 ⟨rfl, b2⟩
        have T2 := T1.below b2
        clear b2 T1
        clear c0 c1 c2 c3 x0 x1 x2 x3 d0 d1 d2 d3 u0 u1 u2 u3
        have c0 : w2.cell? ⟨g3, 0, none⟩ = some (.bool p0) := blk_cell T2.P 0
        have c1 : w2.cell? ⟨g3, 1, none⟩ = some (.bool p1) := blk_cell T2.P 1
        have c2 : w2.cell? ⟨g3, 2, none⟩ = some (.slice ra n1 rc) := blk_cell T2.P 2
        have c3 : w2.cell? ⟨g3, 3, none⟩ = some (.slice sa n2 sc) := blk_cell T2.P 3
        have x0 : w2.cell? ⟨g4, 0, none⟩ = some (.bool q0) := blk_cell T2.Q 0
        have x1 : w2.cell? ⟨g4, 1, none⟩ = some (.bool q1) := blk_cell T2.Q 1
        have x2 : w2.cell? ⟨g4, 2, none⟩ = some (.slice ra' n3 rc') := blk_cell T2.Q 2
        have x3 : w2.cell? ⟨g4, 3, none⟩ = some (.slice sa' n4 sc') := blk_cell T2.Q 3
        have d0 : w2.cell? ⟨g5, 0, none⟩ = some (.string pa') := blk_cell T2.A 0
        have d1 : w2.cell? ⟨g5, 1, none⟩ = some (.slice aa na' ca) := blk_cell T2.A 1
        have d2 : w2.cell? ⟨g5, 2, none⟩ = some (.string va') := blk_cell T2.A 2
        have d3 : w2.cell? ⟨g5, 3, none⟩ = some (.string ma') := blk_cell T2.A 3
        have u0 : w2.cell? ⟨g6, 0, none⟩ = some (.string pb') := blk_cell T2.B 0
        have u1 : w2.cell? ⟨g6, 1, none⟩ = some (.slice ab nb' cb) := blk_cell T2.B 1
        have u2 : w2.cell? ⟨g6, 2, none⟩ = some (.string vb') := blk_cell T2.B 2
        have u3 : w2.cell? ⟨g6, 3, none⟩ = some (.string mb') := blk_cell T2.B 3
        go_wp2_with fail
        refine (awake_any _).mono ?_
        rintro e wz ⟨rfl, bz⟩
        go_wp2
        go_ret
        exact ⟨rfl, T2.bl.trans (bz.mono T2.bl.size)⟩
      · have Q2 := hidI e2; clear e2
        cases e3 : maySB pa' na' va' ma' A
        · have Q3 := hidI e3; clear e3
          go_wp2_with fail
          refine (may3_any p0 p1 ra n1 rc sa n2 sc F T F' T' _ (hPol.below T0.bl)).mono ?_
          rw [Q1.out]
          rintro e w1 ⟨rfl, b1⟩
          have T1 := T0.below b1
          clear b1 T0
          clear c0 c1 c2 c3 x0 x1 x2 x3 d0 d1 d2 d3 u0 u1 u2 u3
          have c0 : w1.cell? ⟨g3, 0, none⟩ = some (.bool p0) := blk_cell T1.P 0
          have c1 : w1.cell? ⟨g3, 1, none⟩ = some (.bool p1) := blk_cell T1.P 1
          have c2 : w1.cell? ⟨g3, 2, none⟩ = some (.slice ra n1 rc) := blk_cell T1.P 2
          have c3 : w1.cell? ⟨g3, 3, none⟩ = some (.slice sa n2 sc) := blk_cell T1.P 3
          have x0 : w1.cell? ⟨g4, 0, none⟩ = some (.bool q0) := blk_cell T1.Q 0
          have x1 : w1.cell? ⟨g4, 1, none⟩ = some (.bool q1) := blk_cell T1.Q 1
          have x2 : w1.cell? ⟨g4, 2, none⟩ = some (.slice ra' n3 rc') := blk_cell T1.Q 2
          have x3 : w1.cell? ⟨g4, 3, none⟩ = some (.slice sa' n4 sc') := blk_cell T1.Q 3
          have d0 : w1.cell? ⟨g5, 0, none⟩ = some (.string pa') := blk_cell T1.A 0
          have d1 : w1.cell? ⟨g5, 1, none⟩ = some (.slice aa na' ca) := blk_cell T1.A 1
          have d2 : w1.cell? ⟨g5, 2, none⟩ = some (.string va') := blk_cell T1.A 2
          have d3 : w1.cell? ⟨g5, 3, none⟩ = some (.string ma') := blk_cell T1.A 3
          have u0 : w1.cell? ⟨g6, 0, none⟩ = some (.string pb') := blk_cell T1.B 0
          have u1 : w1.cell? ⟨g6, 1, none⟩ = some (.slice ab nb' cb) := blk_cell T1.B 1
          have u2 : w1.cell? ⟨g6, 2, none⟩ = some (.string vb') := blk_cell T1.B 2
          have u3 : w1.cell? ⟨g6, 3, none⟩ = some (.string mb') := blk_cell T1.B 3
          go_wp2_with fail
          refine (may3_any q0 q1 ra' n3 rc' sa' n4 sc' G U G' U' _ (hQol.below T1.bl)).mono ?_
          rw [Q2.out]
          rintro e w2 ⟨rfl, b2⟩
          have T2 := T1.below b2
          clear b2 T1
          clear c0 c1 c2 c3 x0 x1 x2 x3 d0 d1 d2 d3 u0 u1 u2 u3
          have c0 : w2.cell? ⟨g3, 0, none⟩ = some (.bool p0) := blk_cell T2.P 0
          have c1 : w2.cell? ⟨g3, 1, none⟩ = some (.bool p1) := blk_cell T2.P 1
          have c2 : w2.cell? ⟨g3, 2, none⟩ = some (.slice ra n1 rc) := blk_cell T2.P 2
          have c3 : w2.cell? ⟨g3, 3, none⟩ = some (.slice sa n2 sc) := blk_cell T2.P 3
          have x0 : w2.cell? ⟨g4, 0, none⟩ = some (.bool q0) := blk_cell T2.Q 0
          have x1 : w2.cell? ⟨g4, 1, none⟩ = some (.bool q1) := blk_cell T2.Q 1
          have x2 : w2.cell? ⟨g4, 2, none⟩ = some (.slice ra' n3 rc') := blk_cell T2.Q 2
          have x3 : w2.cell? ⟨g4, 3, none⟩ = some (.slice sa' n4 sc') := blk_cell T2.Q 3
          have d0 : w2.cell? ⟨g5, 0, none⟩ = some (.string pa') := blk_cell T2.A 0
          have d1 : w2.cell? ⟨g5, 1, none⟩ = some (.slice aa na' ca) := blk_cell T2.A 1
          have d2 : w2.cell? ⟨g5, 2, none⟩ = some (.string va') := blk_cell T2.A 2
          have d3 : w2.cell? ⟨g5, 3, none⟩ = some (.string ma') := blk_cell T2.A 3
          have u0 : w2.cell? ⟨g6, 0, none⟩ = some (.string pb') := blk_cell T2.B 0
          have u1 : w2.cell? ⟨g6, 1, none⟩ = some (.slice ab nb' cb) := blk_cell T2.B 1
          have u2 : w2.cell? ⟨g6, 2, none⟩ = some (.string vb') := blk_cell T2.B 2
          have u3 : w2.cell? ⟨g6, 3, none⟩ = some (.string mb') := blk_cell T2.B 3
          go_wp2_with fail
          refine (smayr_any pa' aa na' ca va' ma' A _ (by omega) (by omega) (hIA.below T2.bl) hIAR).mono ?_
          rw [Q3.out]
          rintro e w3 ⟨rfl, b3⟩
          have T3 := T2.below b3
          clear b3 T2
          clear c0 c1 c2 c3 x0 x1 x2 x3 d0 d1 d2 d3 u0 u1 u2 u3
          have c0 : w3.cell? ⟨g3, 0, none⟩ = some (.bool p0) := blk_cell T3.P 0
          have c1 : w3.cell? ⟨g3, 1, none⟩ = some (.bool p1) := blk_cell T3.P 1
          have c2 : w3.cell? ⟨g3, 2, none⟩ = some (.slice ra n1 rc) := blk_cell T3.P 2
          have c3 : w3.cell? ⟨g3, 3, none⟩ = some (.slice sa n2 sc) := blk_cell T3.P 3
          have x0 : w3.cell? ⟨g4, 0, none⟩ = some (.bool q0) := blk_cell T3.Q 0
          have x1 : w3.cell? ⟨g4, 1, none⟩ = some (.bool q1) := blk_cell T3.Q 1
          have x2 : w3.cell? ⟨g4, 2, none⟩ = some (.slice ra' n3 rc') := blk_cell T3.Q 2
          have x3 : w3.cell? ⟨g4, 3, none⟩ = some (.slice sa' n4 sc') := blk_cell T3.Q 3
          have d0 : w3.cell? ⟨g5, 0, none⟩ = some (.string pa') := blk_cell T3.A 0
          have d1 : w3.cell? ⟨g5, 1, none⟩ = some (.slice aa na' ca) := blk_cell T3.A 1
          have d2 : w3.cell? ⟨g5, 2, none⟩ = some (.string va') := blk_cell T3.A 2
          have d3 : w3.cell? ⟨g5, 3, none⟩ = some (.string ma') := blk_cell T3.A 3
          have u0 : w3.cell? ⟨g6, 0, none⟩ = some (.string pb') := blk_cell T3.B 0
          have u1 : w3.cell? ⟨g6, 1, none⟩ = some (.slice ab nb' cb) := blk_cell T3.B 1
          have u2 : w3.cell? ⟨g6, 2, none⟩ = some (.string vb') := blk_cell T3.B 2
          have u3 : w3.cell? ⟨g6, 3, none⟩ = some (.string mb') := blk_cell T3.B 3
          go_wp2_with fail
          refine (awake_any _).mono ?_
          rintro e wz ⟨rfl, bz⟩
          go_wp2
          go_ret
          exact ⟨rfl, T3.bl.trans (bz.mono T3.bl.size)⟩
        · have Q3 := hidI e3; clear e3
          cases e4 : maySB pb' nb' vb' mb' B
          · have Q4 := hidI e4; clear e4
            go_wp2_with fail
            refine (may3_any p0 p1 ra n1 rc sa n2 sc F T F' T' _ (hPol.below T0.bl)).mono ?_
            rw [Q1.out]
            rintro e w1 ⟨rfl, b1⟩
            have T1 := T0.below b1
            clear b1 T0
            clear c0 c1 c2 c3 x0 x1 x2 x3 d0 d1 d2 d3 u0 u1 u2 u3
            have c0 : w1.cell? ⟨g3, 0, none⟩ = some (.bool p0) := blk_cell T1.P 0
            have c1 : w1.cell? ⟨g3, 1, none⟩ = some (.bool p1) := blk_cell T1.P 1
            have c2 : w1.cell? ⟨g3, 2, none⟩ = some (.slice ra n1 rc) := blk_cell T1.P 2
            have c3 : w1.cell? ⟨g3, 3, none⟩ = some (.slice sa n2 sc) := blk_cell T1.P 3
            have x0 : w1.cell? ⟨g4, 0, none⟩ = some (.bool q0) := blk_cell T1.Q 0
            have x1 : w1.cell? ⟨g4, 1, none⟩ = some (.bool q1) := blk_cell T1.Q 1
            have x2 : w1.cell? ⟨g4, 2, none⟩ = some (.slice ra' n3 rc') := blk_cell T1.Q 2
            have x3 : w1.cell? ⟨g4, 3, none⟩ = some (.slice sa' n4 sc') := blk_cell T1.Q 3
            have d0 : w1.cell? ⟨g5, 0, none⟩ = some (.string pa') := blk_cell T1.A 0
            have d1 : w1.cell? ⟨g5, 1, none⟩ = some (.slice aa na' ca) := blk_cell T1.A 1
            have d2 : w1.cell? ⟨g5, 2, none⟩ = some (.string va') := blk_cell T1.A 2
            have d3 : w1.cell? ⟨g5, 3, none⟩ = some (.string ma') := blk_cell T1.A 3
            have u0 : w1.cell? ⟨g6, 0, none⟩ = some (.string pb') := blk_cell T1.B 0
            have u1 : w1.cell? ⟨g6, 1, none⟩ = some (.slice ab nb' cb) := blk_cell T1.B 1
            have u2 : w1.cell? ⟨g6, 2, none⟩ = some (.string vb') := blk_cell T1.B 2
            have u3 : w1.cell? ⟨g6, 3, none⟩ = some (.string mb') := blk_cell T1.B 3
            go_wp2_with fail
            refine (may3_any q0 q1 ra' n3 rc' sa' n4 sc' G U G' U' _ (hQol.below T1.bl)).mono ?_
            rw [Q2.out]
            rintro e w2 ⟨rfl, b2⟩
            have T2 := T1.below b2
            clear b2 T1
            clear c0 c1 c2 c3 x0 x1 x2 x3 d0 d1 d2 d3 u0 u1 u2 u3
            have c0 : w2.cell? ⟨g3, 0, none⟩ = some (.bool p0) := blk_cell T2.P 0
            have c1 : w2.cell? ⟨g3, 1, none⟩ = some (.bool p1) := blk_cell T2.P 1
            have c2 : w2.cell? ⟨g3, 2, none⟩ = some (.slice ra n1 rc) := blk_cell T2.P 2
            have c3 : w2.cell? ⟨g3, 3, none⟩ = some (.slice sa n2 sc) := blk_cell T2.P 3
            have x0 : w2.cell? ⟨g4, 0, none⟩ = some (.bool q0) := blk_cell T2.Q 0
            have x1 : w2.cell? ⟨g4, 1, none⟩ = some (.bool q1) := blk_cell T2.Q 1
            have x2 : w2.cell? ⟨g4, 2, none⟩ = some (.slice ra' n3 rc') := blk_cell T2.Q 2
            have x3 : w2.cell? ⟨g4, 3, none⟩ = some (.slice sa' n4 sc') := blk_cell T2.Q 3
            have d0 : w2.cell? ⟨g5, 0, none⟩ = some (.string pa') := blk_cell T2.A 0
            have d1 : w2.cell? ⟨g5, 1, none⟩ = some (.slice aa na' ca) := blk_cell T2.A 1
            have d2 : w2.cell? ⟨g5, 2, none⟩ = some (.string va') := blk_cell T2.A 2
            have d3 : w2.cell? ⟨g5, 3, none⟩ = some (.string ma') := blk_cell T2.A 3
            have u0 : w2.cell? ⟨g6, 0, none⟩ = some (.string pb') := blk_cell T2.B 0
            have u1 : w2.cell? ⟨g6, 1, none⟩ = some (.slice ab nb' cb) := blk_cell T2.B 1
            have u2 : w2.cell? ⟨g6, 2, none⟩ = some (.string vb') := blk_cell T2.B 2
            have u3 : w2.cell? ⟨g6, 3, none⟩ = some (.string mb') := blk_cell T2.B 3
            go_wp2_with fail
            refine (smayr_any pa' aa na' ca va' ma' A _ (by omega) (by omega) (hIA.below T2.bl) hIAR).mono ?_
            rw [Q3.out]
            rintro e w3 ⟨rfl, b3⟩
            have T3 := T2.below b3
            clear b3 T2
            clear c0 c1 c2 c3 x0 x1 x2 x3 d0 d1 d2 d3 u0 u1 u2 u3
            have c0 : w3.cell? ⟨g3, 0, none⟩ = some (.bool p0) := blk_cell T3.P 0
            have c1 : w3.cell? ⟨g3, 1, none⟩ = some (.bool p1) := blk_cell T3.P 1
            have c2 : w3.cell? ⟨g3, 2, none⟩ = some (.slice ra n1 rc) := blk_cell T3.P 2
            have c3 : w3.cell? ⟨g3, 3, none⟩ = some (.slice sa n2 sc) := blk_cell T3.P 3
            have x0 : w3.cell? ⟨g4, 0, none⟩ = some (.bool q0) := blk_cell T3.Q 0
            have x1 : w3.cell? ⟨g4, 1, none⟩ = some (.bool q1) := blk_cell T3.Q 1
            have x2 : w3.cell? ⟨g4, 2, none⟩ = some (.slice ra' n3 rc') := blk_cell T3.Q 2
            have x3 : w3.cell? ⟨g4, 3, none⟩ = some (.slice sa' n4 sc') := blk_cell T3.Q 3
            have d0 : w3.cell? ⟨g5, 0, none⟩ = some (.string pa') := blk_cell T3.A 0
            have d1 : w3.cell? ⟨g5, 1, none⟩ = some (.slice aa na' ca) := blk_cell T3.A 1
            have d2 : w3.cell? ⟨g5, 2, none⟩ = some (.string va') := blk_cell T3.A 2
            have d3 : w3.cell? ⟨g5, 3, none⟩ = some (.string ma') := blk_cell T3.A 3
            have u0 : w3.cell? ⟨g6, 0, none⟩ = some (.string pb') := blk_cell T3.B 0
            have u1 : w3.cell? ⟨g6, 1, none⟩ = some (.slice ab nb' cb) := blk_cell T3.B 1
            have u2 : w3.cell? ⟨g6, 2, none⟩ = some (.string vb') := blk_cell T3.B 2
            have u3 : w3.cell? ⟨g6, 3, none⟩ = some (.string mb') := blk_cell T3.B 3
            go_wp2_with fail
            refine (smayr_any pb' ab nb' cb vb' mb' B _ (by omega) (by omega) (hIB.below T3.bl) hIBR).mono ?_
            rw [Q4.out]
            rintro e w4 ⟨rfl, b4⟩
            have T4 := T3.below b4
            clear b4 T3
            clear c0 c1 c2 c3 x0 x1 x2 x3 d0 d1 d2 d3 u0 u1 u2 u3
            have c0 : w4.cell? ⟨g3, 0, none⟩ = some (.bool p0) := blk_cell T4.P 0
            have c1 : w4.cell? ⟨g3, 1, none⟩ = some (.bool p1) := blk_cell T4.P 1
            have c2 : w4.cell? ⟨g3, 2, none⟩ = some (.slice ra n1 rc) := blk_cell T4.P 2
            have c3 : w4.cell? ⟨g3, 3, none⟩ = some (.slice sa n2 sc) := blk_cell T4.P 3
            have x0 : w4.cell? ⟨g4, 0, none⟩ = some (.bool q0) := blk_cell T4.Q 0
            have x1 : w4.cell? ⟨g4, 1, none⟩ = some (.bool q1) := blk_cell T4.Q 1
            have x2 : w4.cell? ⟨g4, 2, none⟩ = some (.slice ra' n3 rc') := blk_cell T4.Q 2
            have x3 : w4.cell? ⟨g4, 3, none⟩ = some (.slice sa' n4 sc') := blk_cell T4.Q 3
            have d0 : w4.cell? ⟨g5, 0, none⟩ = some (.string pa') := blk_cell T4.A 0
            have d1 : w4.cell? ⟨g5, 1, none⟩ = some (.slice aa na' ca) := blk_cell T4.A 1
            have d2 : w4.cell? ⟨g5, 2, none⟩ = some (.string va') := blk_cell T4.A 2
            have d3 : w4.cell? ⟨g5, 3, none⟩ = some (.string ma') := blk_cell T4.A 3
            have u0 : w4.cell? ⟨g6, 0, none⟩ = some (.string pb') := blk_cell T4.B 0
            have u1 : w4.cell? ⟨g6, 1, none⟩ = some (.slice ab nb' cb) := blk_cell T4.B 1
            have u2 : w4.cell? ⟨g6, 2, none⟩ = some (.string vb') := blk_cell T4.B 2
            have u3 : w4.cell? ⟨g6, 3, none⟩ = some (.string mb') := blk_cell T4.B 3
            go_wp2_with fail
            refine (awake_any _).mono ?_
            rintro e wz ⟨rfl, bz⟩
            go_wp2
            go_ret
            exact ⟨rfl, T4.bl.trans (bz.mono T4.bl.size)⟩
          · have Q4 := hidI e4; clear e4
            have QR : Hid (alkB p0 p1 n1 n2 F T F' T' pa' na' va' ma' A pa' na' va' ma' A = true) := alk_refl Q1.out Q3.out
            have HG1 : Hid (rgB F T n1 = true) := by have h := Q1.out; unfold mayPB at h; rw [Bool.and_eq_true] at h; exact (wi_all' h.1).1
            have HG3 : Hid (rgB F' T' n2 = true) := by have h := Q1.out; unfold mayPB at h; rw [Bool.and_eq_true] at h; exact (wi_all' h.2).1
            have HG2 : Hid (rgB G U n3 = true) := by have h := Q2.out; unfold mayPB at h; rw [Bool.and_eq_true] at h; exact (wi_all' h.1).1
            have HG4 : Hid (rgB G' U' n4 = true) := by have h := Q2.out; unfold mayPB at h; rw [Bool.and_eq_true] at h; exact (wi_all' h.2).1
            cases ez : alkB p0 p1 n1 n2 F T F' T' pa' na' va' ma' A pb' nb' vb' mb' B
            · have QA := hidI ez
              have QS : Hid (alkB p0 p1 n1 n2 F T F' T' pb' nb' vb' mb' B pa' na' va' ma' A = false) := (alk_symm ..).trans ez
              clear ez
              cases ey : sameB pa' na' va' ma' A pb' nb' vb' mb' B
              · have QY := hidI ey
                have QN : Hid (alkB false false 0 0 F T F' T' pa' na' va' ma' A pb' nb' vb' mb' B = false) := (alk_none Q3.out Q4.out).trans ey
                clear ey
                go_wp2_with fail
                refine (may3_any p0 p1 ra n1 rc sa n2 sc F T F' T' _ (hPol.below T0.bl)).mono ?_
                rw [Q1.out]
                rintro e w1 ⟨rfl, b1⟩
                have T1 := T0.below b1
                clear b1 T0
                clear c0 c1 c2 c3 x0 x1 x2 x3 d0 d1 d2 d3 u0 u1 u2 u3
                have c0 : w1.cell? ⟨g3, 0, none⟩ = some (.bool p0) := blk_cell T1.P 0
                have c1 : w1.cell? ⟨g3, 1, none⟩ = some (.bool p1) := blk_cell T1.P 1
                have c2 : w1.cell? ⟨g3, 2, none⟩ = some (.slice ra n1 rc) := blk_cell T1.P 2
                have c3 : w1.cell? ⟨g3, 3, none⟩ = some (.slice sa n2 sc) := blk_cell T1.P 3
                have x0 : w1.cell? ⟨g4, 0, none⟩ = some (.bool q0) := blk_cell T1.Q 0
                have x1 : w1.cell? ⟨g4, 1, none⟩ = some (.bool q1) := blk_cell T1.Q 1
                have x2 : w1.cell? ⟨g4, 2, none⟩ = some (.slice ra' n3 rc') := blk_cell T1.Q 2
                have x3 : w1.cell? ⟨g4, 3, none⟩ = some (.slice sa' n4 sc') := blk_cell T1.Q 3
                have d0 : w1.cell? ⟨g5, 0, none⟩ = some (.string pa') := blk_cell T1.A 0
                have d1 : w1.cell? ⟨g5, 1, none⟩ = some (.slice aa na' ca) := blk_cell T1.A 1
                have d2 : w1.cell? ⟨g5, 2, none⟩ = some (.string va') := blk_cell T1.A 2
                have d3 : w1.cell? ⟨g5, 3, none⟩ = some (.string ma') := blk_cell T1.A 3
                have u0 : w1.cell? ⟨g6, 0, none⟩ = some (.string pb') := blk_cell T1.B 0
                have u1 : w1.cell? ⟨g6, 1, none⟩ = some (.slice ab nb' cb) := blk_cell T1.B 1
                have u2 : w1.cell? ⟨g6, 2, none⟩ = some (.string vb') := blk_cell T1.B 2
                have u3 : w1.cell? ⟨g6, 3, none⟩ = some (.string mb') := blk_cell T1.B 3
                go_wp2_with fail
                refine (may3_any q0 q1 ra' n3 rc' sa' n4 sc' G U G' U' _ (hQol.below T1.bl)).mono ?_
                rw [Q2.out]
                rintro e w2 ⟨rfl, b2⟩
                have T2 := T1.below b2
                clear b2 T1
                clear c0 c1 c2 c3 x0 x1 x2 x3 d0 d1 d2 d3 u0 u1 u2 u3
                have c0 : w2.cell? ⟨g3, 0, none⟩ = some (.bool p0) := blk_cell T2.P 0
                have c1 : w2.cell? ⟨g3, 1, none⟩ = some (.bool p1) := blk_cell T2.P 1
                have c2 : w2.cell? ⟨g3, 2, none⟩ = some (.slice ra n1 rc) := blk_cell T2.P 2
                have c3 : w2.cell? ⟨g3, 3, none⟩ = some (.slice sa n2 sc) := blk_cell T2.P 3
                have x0 : w2.cell? ⟨g4, 0, none⟩ = some (.bool q0) := blk_cell T2.Q 0
                have x1 : w2.cell? ⟨g4, 1, none⟩ = some (.bool q1) := blk_cell T2.Q 1
                have x2 : w2.cell? ⟨g4, 2, none⟩ = some (.slice ra' n3 rc') := blk_cell T2.Q 2
                have x3 : w2.cell? ⟨g4, 3, none⟩ = some (.slice sa' n4 sc') := blk_cell T2.Q 3
                have d0 : w2.cell? ⟨g5, 0, none⟩ = some (.string pa') := blk_cell T2.A 0
                have d1 : w2.cell? ⟨g5, 1, none⟩ = some (.slice aa na' ca) := blk_cell T2.A 1
                have d2 : w2.cell? ⟨g5, 2, none⟩ = some (.string va') := blk_cell T2.A 2
                have d3 : w2.cell? ⟨g5, 3, none⟩ = some (.string ma') := blk_cell T2.A 3
                have u0 : w2.cell? ⟨g6, 0, none⟩ = some (.string pb') := blk_cell T2.B 0
                have u1 : w2.cell? ⟨g6, 1, none⟩ = some (.slice ab nb' cb) := blk_cell T2.B 1
                have u2 : w2.cell? ⟨g6, 2, none⟩ = some (.string vb') := blk_cell T2.B 2
                have u3 : w2.cell? ⟨g6, 3, none⟩ = some (.string mb') := blk_cell T2.B 3
                go_wp2_with fail
                refine (smayr_any pa' aa na' ca va' ma' A _ (by omega) (by omega) (hIA.below T2.bl) hIAR).mono ?_
                rw [Q3.out]
                rintro e w3 ⟨rfl, b3⟩
                have T3 := T2.below b3
                clear b3 T2
                clear c0 c1 c2 c3 x0 x1 x2 x3 d0 d1 d2 d3 u0 u1 u2 u3
                have c0 : w3.cell? ⟨g3, 0, none⟩ = some (.bool p0) := blk_cell T3.P 0
                have c1 : w3.cell? ⟨g3, 1, none⟩ = some (.bool p1) := blk_cell T3.P 1
                have c2 : w3.cell? ⟨g3, 2, none⟩ = some (.slice ra n1 rc) := blk_cell T3.P 2
                have c3 : w3.cell? ⟨g3, 3, none⟩ = some (.slice sa n2 sc) := blk_cell T3.P 3
                have x0 : w3.cell? ⟨g4, 0, none⟩ = some (.bool q0) := blk_cell T3.Q 0
                have x1 : w3.cell? ⟨g4, 1, none⟩ = some (.bool q1) := blk_cell T3.Q 1
                have x2 : w3.cell? ⟨g4, 2, none⟩ = some (.slice ra' n3 rc') := blk_cell T3.Q 2
                have x3 : w3.cell? ⟨g4, 3, none⟩ = some (.slice sa' n4 sc') := blk_cell T3.Q 3
                have d0 : w3.cell? ⟨g5, 0, none⟩ = some (.string pa') := blk_cell T3.A 0
                have d1 : w3.cell? ⟨g5, 1, none⟩ = some (.slice aa na' ca) := blk_cell T3.A 1
                have d2 : w3.cell? ⟨g5, 2, none⟩ = some (.string va') := blk_cell T3.A 2
                have d3 : w3.cell? ⟨g5, 3, none⟩ = some (.string ma') := blk_cell T3.A 3
                have u0 : w3.cell? ⟨g6, 0, none⟩ = some (.string pb') := blk_cell T3.B 0
                have u1 : w3.cell? ⟨g6, 1, none⟩ = some (.slice ab nb' cb) := blk_cell T3.B 1
                have u2 : w3.cell? ⟨g6, 2, none⟩ = some (.string vb') := blk_cell T3.B 2
                have u3 : w3.cell? ⟨g6, 3, none⟩ = some (.string mb') := blk_cell T3.B 3
                go_wp2_with fail
                refine (smayr_any pb' ab nb' cb vb' mb' B _ (by omega) (by omega) (hIB.below T3.bl) hIBR).mono ?_
                rw [Q4.out]
                rintro e w4 ⟨rfl, b4⟩
                have T4 := T3.below b4
                clear b4 T3
                clear c0 c1 c2 c3 x0 x1 x2 x3 d0 d1 d2 d3 u0 u1 u2 u3
                have c0 : w4.cell? ⟨g3, 0, none⟩ = some (.bool p0) := blk_cell T4.P 0
                have c1 : w4.cell? ⟨g3, 1, none⟩ = some (.bool p1) := blk_cell T4.P 1
                have c2 : w4.cell? ⟨g3, 2, none⟩ = some (.slice ra n1 rc) := blk_cell T4.P 2
                have c3 : w4.cell? ⟨g3, 3, none⟩ = some (.slice sa n2 sc) := blk_cell T4.P 3
                have x0 : w4.cell? ⟨g4, 0, none⟩ = some (.bool q0) := blk_cell T4.Q 0
                have x1 : w4.cell? ⟨g4, 1, none⟩ = some (.bool q1) := blk_cell T4.Q 1
                have x2 : w4.cell? ⟨g4, 2, none⟩ = some (.slice ra' n3 rc') := blk_cell T4.Q 2
                have x3 : w4.cell? ⟨g4, 3, none⟩ = some (.slice sa' n4 sc') := blk_cell T4.Q 3
                have d0 : w4.cell? ⟨g5, 0, none⟩ = some (.string pa') := blk_cell T4.A 0
                have d1 : w4.cell? ⟨g5, 1, none⟩ = some (.slice aa na' ca) := blk_cell T4.A 1
                have d2 : w4.cell? ⟨g5, 2, none⟩ = some (.string va') := blk_cell T4.A 2
                have d3 : w4.cell? ⟨g5, 3, none⟩ = some (.string ma') := blk_cell T4.A 3
                have u0 : w4.cell? ⟨g6, 0, none⟩ = some (.string pb') := blk_cell T4.B 0
                have u1 : w4.cell? ⟨g6, 1, none⟩ = some (.slice ab nb' cb) := blk_cell T4.B 1
                have u2 : w4.cell? ⟨g6, 2, none⟩ = some (.string vb') := blk_cell T4.B 2
                have u3 : w4.cell? ⟨g6, 3, none⟩ = some (.string mb') := blk_cell T4.B 3
                go_wp2_with fail
                refine (alike_any p0 p1 ra n1 rc sa n2 sc F T F' T' pa' aa na' ca va' ma' A pb' ab nb' cb vb' mb' B _ (hPol.below T4.bl) (by omega) (by omega) (by omega) (by omega) (by omega) (by omega) (by omega) (by omega) (hIA.below T4.bl) (hIB.below T4.bl)).mono ?_
                rw [QA.out]
                rintro e w5 ⟨rfl, b5⟩
                have T5 := T4.below b5
                clear b5 T4
                clear c0 c1 c2 c3 x0 x1 x2 x3 d0 d1 d2 d3 u0 u1 u2 u3
                have c0 : w5.cell? ⟨g3, 0, none⟩ = some (.bool p0) := blk_cell T5.P 0
                have c1 : w5.cell? ⟨g3, 1, none⟩ = some (.bool p1) := blk_cell T5.P 1
                have c2 : w5.cell? ⟨g3, 2, none⟩ = some (.slice ra n1 rc) := blk_cell T5.P 2
                have c3 : w5.cell? ⟨g3, 3, none⟩ = some (.slice sa n2 sc) := blk_cell T5.P 3
                have x0 : w5.cell? ⟨g4, 0, none⟩ = some (.bool q0) := blk_cell T5.Q 0
                have x1 : w5.cell? ⟨g4, 1, none⟩ = some (.bool q1) := blk_cell T5.Q 1
                have x2 : w5.cell? ⟨g4, 2, none⟩ = some (.slice ra' n3 rc') := blk_cell T5.Q 2
                have x3 : w5.cell? ⟨g4, 3, none⟩ = some (.slice sa' n4 sc') := blk_cell T5.Q 3
                have d0 : w5.cell? ⟨g5, 0, none⟩ = some (.string pa') := blk_cell T5.A 0
                have d1 : w5.cell? ⟨g5, 1, none⟩ = some (.slice aa na' ca) := blk_cell T5.A 1
                have d2 : w5.cell? ⟨g5, 2, none⟩ = some (.string va') := blk_cell T5.A 2
                have d3 : w5.cell? ⟨g5, 3, none⟩ = some (.string ma') := blk_cell T5.A 3
                have u0 : w5.cell? ⟨g6, 0, none⟩ = some (.string pb') := blk_cell T5.B 0
                have u1 : w5.cell? ⟨g6, 1, none⟩ = some (.slice ab nb' cb) := blk_cell T5.B 1
                have u2 : w5.cell? ⟨g6, 2, none⟩ = some (.string vb') := blk_cell T5.B 2
                have u3 : w5.cell? ⟨g6, 3, none⟩ = some (.string mb') := blk_cell T5.B 3
                have T6 := T5.below (Below.refl _ _).drew
                clear c0 c1 c2 c3 x0 x1 x2 x3 d0 d1 d2 d3 u0 u1 u2 u3
                go_upto_region 5 with fail
                refine wp_region_noPanic ?_
                refine wp_region_held_drew (S := (fun w' => w'.cell? ⟨g3, 0, none⟩ = some (.bool p0) ∧ w'.cell? ⟨g3, 1, none⟩ = some (.bool p1) ∧ w'.cell? ⟨g3, 2, none⟩ = some (.slice ra n1 rc) ∧ w'.cell? ⟨g3, 3, none⟩ = some (.slice sa n2 sc) ∧ w'.cell? ⟨g4, 0, none⟩ = some (.bool q0) ∧ w'.cell? ⟨g4, 1, none⟩ = some (.bool q1) ∧ w'.cell? ⟨g4, 2, none⟩ = some (.slice ra' n3 rc') ∧ w'.cell? ⟨g4, 3, none⟩ = some (.slice sa' n4 sc') ∧ w'.cell? ⟨g5, 0, none⟩ = some (.string pa') ∧ w'.cell? ⟨g5, 1, none⟩ = some (.slice aa na' ca) ∧ w'.cell? ⟨g5, 2, none⟩ = some (.string va') ∧ w'.cell? ⟨g5, 3, none⟩ = some (.string ma') ∧ w'.cell? ⟨g6, 0, none⟩ = some (.string pb') ∧ w'.cell? ⟨g6, 1, none⟩ = some (.slice ab nb' cb) ∧ w'.cell? ⟨g6, 2, none⟩ = some (.string vb') ∧ w'.cell? ⟨g6, 3, none⟩ = some (.string mb'))) (by kernel_rfl) ⟨blk_cell T6.P 0, blk_cell T6.P 1, blk_cell T6.P 2, blk_cell T6.P 3, blk_cell T6.Q 0, blk_cell T6.Q 1, blk_cell T6.Q 2, blk_cell T6.Q 3, blk_cell T6.A 0, blk_cell T6.A 1, blk_cell T6.A 2, blk_cell T6.A 3, blk_cell T6.B 0, blk_cell T6.B 1, blk_cell T6.B 2, blk_cell T6.B 3⟩ (fun hHeld => ?_)
                refine tk 0 (oi := ⟨_, _, _, _, _, _⟩) (v := ?_) rfl (by rfl) ?_ (by assumption) ?_; rotate_left; (focus (intro w hSw; (try dsimp only at hSw); go_simp; with_reducible rfl)); simp only [Act.put, tA, tB, tC]
                refine tk 1 (oi := ⟨_, _, _, _, _, _⟩) (v := ?_) rfl (by rfl) ?_ (by assumption) ?_; rotate_left; (focus (intro w hSw; (try dsimp only at hSw); go_simp; with_reducible rfl)); simp only [Act.put, tA, tB, tC]
                refine tk 2 (oi := ⟨_, _, _, _, _, _⟩) (v := ?_) rfl (by rfl) ?_ (by assumption) ?_; rotate_left; (focus (intro w hSw; (try dsimp only at hSw); go_simp; with_reducible rfl)); simp only [Act.put, tA, tB, tC]
                refine tk 3 (oi := ⟨_, _, _, _, _, _⟩) (v := ?_) rfl (by rfl) ?_ (by assumption) ?_; rotate_left; (focus (intro w hSw; (try dsimp only at hSw); go_simp; with_reducible rfl)); simp only [Act.put, tA, tB, tC]
                refine wpAnyH_ready (rs := [4]) (by kernel_rfl) (by simp) ?_
                refine AllReadyH.cons (o := ⟨_, _, _, _, _, _⟩) rfl (fun K hK => ?_) (AllReadyH.nil)
                go_simp
                refine (alike_any p0 p1 ra n1 rc sa n2 sc F T F' T' pb' ab nb' cb vb' mb' B pa' aa na' ca va' ma' A _ (hPol.below T6.bl) (by omega) (by omega) (by omega) (by omega) (by omega) (by omega) (by omega) (by omega) (hIB.below T6.bl) (hIA.below T6.bl)).mono ?_
                rw [QS.out]
                rintro e w7 ⟨rfl, b7⟩
                have T7 := T6.below b7
                refine hK.out _ _ ⟨blk_cell T7.P 0, blk_cell T7.P 1, blk_cell T7.P 2, blk_cell T7.P 3, blk_cell T7.Q 0, blk_cell T7.Q 1, blk_cell T7.Q 2, blk_cell T7.Q 3, blk_cell T7.A 0, blk_cell T7.A 1, blk_cell T7.A 2, blk_cell T7.A 3, blk_cell T7.B 0, blk_cell T7.B 1, blk_cell T7.B 2, blk_cell T7.B 3⟩ (fun hHeld => ?_)
                clear hK K
                refine tk 5 (oi := ⟨_, _, _, _, _, _⟩) (v := ?_) rfl (by rfl) ?_ (by assumption) ?_; rotate_left; (focus (intro w hSw; (try dsimp only at hSw); go_simp; with_reducible rfl)); simp only [Act.put, tA, tB, tC]
                refine tk 6 (oi := ⟨_, _, _, _, _, _⟩) (v := ?_) rfl (by rfl) ?_ (by assumption) ?_; rotate_left; (focus (intro w hSw; (try dsimp only at hSw); go_simp; with_reducible rfl)); simp only [Act.put, tA, tB, tC]
                refine tk 7 (oi := ⟨_, _, _, _, _, _⟩) (v := ?_) rfl (by rfl) ?_ (by assumption) ?_; rotate_left; (focus (intro w hSw; (try dsimp only at hSw); go_simp; with_reducible rfl)); simp only [Act.put, tA, tB, tC]
                refine tk 8 (oi := ⟨_, _, _, _, _, _⟩) (v := ?_) rfl (by rfl) ?_ (by assumption) ?_; rotate_left; (focus (intro w hSw; (try dsimp only at hSw); go_simp; with_reducible rfl)); simp only [Act.put, tA, tB, tC]
                refine tk 9 (oi := ⟨_, _, _, _, _, _⟩) (v := ?_) rfl (by rfl) ?_ (by assumption) ?_; rotate_left; (focus (intro w hSw; (try dsimp only at hSw); go_simp; with_reducible rfl)); simp only [Act.put, tA, tB, tC]
                refine wpAnyH_ready (rs := [10]) (by kernel_rfl) (by simp) ?_
                refine AllReadyH.cons (o := ⟨_, _, _, _, _, _⟩) rfl (fun K hK => ?_) (AllReadyH.nil)
                go_simp
                refine (alike_any p0 p1 ra n1 rc sa n2 sc F T F' T' pa' aa na' ca va' ma' A pa' aa na' ca va' ma' A _ (hPol.below T7.bl) (by omega) (by omega) (by omega) (by omega) (by omega) (by omega) (by omega) (by omega) (hIA.below T7.bl) (hIA.below T7.bl)).mono ?_
                rw [QR.out]
                rintro e w8 ⟨rfl, b8⟩
                have T8 := T7.below b8
                refine hK.out _ _ ⟨blk_cell T8.P 0, blk_cell T8.P 1, blk_cell T8.P 2, blk_cell T8.P 3, blk_cell T8.Q 0, blk_cell T8.Q 1, blk_cell T8.Q 2, blk_cell T8.Q 3, blk_cell T8.A 0, blk_cell T8.A 1, blk_cell T8.A 2, blk_cell T8.A 3, blk_cell T8.B 0, blk_cell T8.B 1, blk_cell T8.B 2, blk_cell T8.B 3⟩ (fun hHeld => ?_)
                clear hK K
                refine tk 11 (oi := ⟨_, _, _, _, _, _⟩) (v := ?_) rfl (by rfl) ?_ (by assumption) ?_; rotate_left; (focus (intro w hSw; (try dsimp only at hSw); go_simp; with_reducible rfl)); simp only [Act.put, tA, tB, tC]
                refine tk 12 (oi := ⟨_, _, _, _, _, _⟩) (v := ?_) rfl (by rfl) ?_ (by assumption) ?_; rotate_left; (focus (intro w hSw; (try dsimp only at hSw); go_simp; with_reducible rfl)); simp only [Act.put, tA, tB, tC]
                refine tk 13 (oi := ⟨_, _, _, _, _, _⟩) (v := ?_) rfl (by rfl) ?_ (by assumption) ?_; rotate_left; (focus (intro w hSw; (try dsimp only at hSw); go_simp; with_reducible rfl)); simp only [Act.put, tA, tB, tC]
                refine tk 14 (oi := ⟨_, _, _, _, _, _⟩) (v := ?_) rfl (by rfl) ?_ (by assumption) ?_; rotate_left; (focus (intro w hSw; (try dsimp only at hSw); go_simp; with_reducible rfl)); simp only [Act.put, tA, tB, tC]
                refine tk 15 (oi := ⟨_, _, _, _, _, _⟩) (v := ?_) rfl (by rfl) ?_ (by assumption) ?_; rotate_left; (focus (intro w hSw; (try dsimp only at hSw); go_simp; with_reducible rfl)); simp only [Act.put, tA, tB, tC]
                refine tk 16 (oi := ⟨_, _, _, _, _, _⟩) (v := ?_) rfl (by rfl) ?_ (by assumption) ?_; rotate_left; (focus (intro w hSw; (try dsimp only at hSw); go_simp; with_reducible rfl)); simp only [Act.put, tA, tB, tC]
                refine tk 18 (oi := ⟨_, _, _, _, _, _⟩) (v := ?_) rfl (by rfl) ?_ (by assumption) ?_; rotate_left; (focus (intro w hSw; (try dsimp only at hSw); go_simp; with_reducible rfl)); simp only [Act.put, tA, tB, tC]
                refine tk 19 (oi := ⟨_, _, _, _, _, _⟩) (v := ?_) rfl (by rfl) ?_ (by assumption) ?_; rotate_left; (focus (intro w hSw; (try dsimp only at hSw); go_simp; with_reducible rfl)); simp only [Act.put, tA, tB, tC]
                refine wpAnyH_ready (rs := [17]) (by kernel_rfl) (by simp) ?_
                refine AllReadyH.cons (o := ⟨_, _, _, _, _, _⟩) rfl (fun K hK => ?_) (AllReadyH.nil)
                go_simp
                refine (alike_any false false none 0 0 none 0 0 F T F' T' pa' aa na' ca va' ma' A pb' ab nb' cb vb' mb' B _ ⟨nofun, nofun, by omega, by omega⟩ (by omega) (by omega) (by omega) (by omega) (by omega) (by omega) (by omega) (by omega) (hIA.below T8.bl) (hIB.below T8.bl)).mono ?_
                rw [QN.out]
                rintro e w9 ⟨rfl, b9⟩
                have T9 := T8.below b9
                refine hK.out _ _ ⟨blk_cell T9.P 0, blk_cell T9.P 1, blk_cell T9.P 2, blk_cell T9.P 3, blk_cell T9.Q 0, blk_cell T9.Q 1, blk_cell T9.Q 2, blk_cell T9.Q 3, blk_cell T9.A 0, blk_cell T9.A 1, blk_cell T9.A 2, blk_cell T9.A 3, blk_cell T9.B 0, blk_cell T9.B 1, blk_cell T9.B 2, blk_cell T9.B 3⟩ (fun hHeld => ?_)
                clear hK K
                refine wpAnyH_ready (rs := [20]) (by kernel_rfl) (by simp) ?_
                refine AllReadyH.cons (o := ⟨_, _, _, _, _, _⟩) rfl (fun K hK => ?_) (AllReadyH.nil)
                go_simp
                refine (same_any pa' aa na' ca va' ma' A pb' ab nb' cb vb' mb' B _ (by omega) (hIA.below T9.bl) (hIB.below T9.bl)).mono ?_
                rw [QY.out]
                rintro e w10 ⟨rfl, b10⟩
                have T10 := T9.below b10
                refine hK.out _ _ ⟨blk_cell T10.P 0, blk_cell T10.P 1, blk_cell T10.P 2, blk_cell T10.P 3, blk_cell T10.Q 0, blk_cell T10.Q 1, blk_cell T10.Q 2, blk_cell T10.Q 3, blk_cell T10.A 0, blk_cell T10.A 1, blk_cell T10.A 2, blk_cell T10.A 3, blk_cell T10.B 0, blk_cell T10.B 1, blk_cell T10.B 2, blk_cell T10.B 3⟩ (fun hHeld => ?_)
                clear hK K
                refine tk 21 (oi := ⟨_, _, _, _, _, _⟩) (v := ?_) rfl (by rfl) ?_ (by assumption) ?_; rotate_left; (focus (intro w hSw; (try dsimp only at hSw); go_simp; with_reducible rfl)); simp only [Act.put, tA, tB, tC]
                refine tk 22 (oi := ⟨_, _, _, _, _, _⟩) (v := ?_) rfl (by rfl) ?_ (by assumption) ?_; rotate_left; (focus (intro w hSw; (try dsimp only at hSw); go_simp; with_reducible rfl)); simp only [Act.put, tA, tB, tC]
                refine wpAnyH_done (by kernel_rfl) (NoPanic.normal ?_) _
                have T11 := T10.below (Below.refl _ _).drew
                go_upto_region 7 with fail
                refine wp_region_noPanic ?_
                refine wp_region_held_drew (S := (fun w' => w'.cell? ⟨g3, 0, none⟩ = some (.bool p0) ∧ w'.cell? ⟨g3, 1, none⟩ = some (.bool p1) ∧ w'.cell? ⟨g3, 2, none⟩ = some (.slice ra n1 rc) ∧ w'.cell? ⟨g3, 3, none⟩ = some (.slice sa n2 sc) ∧ w'.cell? ⟨g4, 0, none⟩ = some (.bool q0) ∧ w'.cell? ⟨g4, 1, none⟩ = some (.bool q1) ∧ w'.cell? ⟨g4, 2, none⟩ = some (.slice ra' n3 rc') ∧ w'.cell? ⟨g4, 3, none⟩ = some (.slice sa' n4 sc') ∧ w'.cell? ⟨g5, 0, none⟩ = some (.string pa') ∧ w'.cell? ⟨g5, 1, none⟩ = some (.slice aa na' ca) ∧ w'.cell? ⟨g5, 2, none⟩ = some (.string va') ∧ w'.cell? ⟨g5, 3, none⟩ = some (.string ma') ∧ w'.cell? ⟨g6, 0, none⟩ = some (.string pb') ∧ w'.cell? ⟨g6, 1, none⟩ = some (.slice ab nb' cb) ∧ w'.cell? ⟨g6, 2, none⟩ = some (.string vb') ∧ w'.cell? ⟨g6, 3, none⟩ = some (.string mb'))) (by kernel_rfl) ⟨blk_cell T11.P 0, blk_cell T11.P 1, blk_cell T11.P 2, blk_cell T11.P 3, blk_cell T11.Q 0, blk_cell T11.Q 1, blk_cell T11.Q 2, blk_cell T11.Q 3, blk_cell T11.A 0, blk_cell T11.A 1, blk_cell T11.A 2, blk_cell T11.A 3, blk_cell T11.B 0, blk_cell T11.B 1, blk_cell T11.B 2, blk_cell T11.B 3⟩ (fun hHeld => ?_)
                refine tk 0 (oi := ⟨_, _, _, _, _, _⟩) (v := ?_) rfl (by rfl) ?_ (by assumption) ?_; rotate_left; (focus (intro w hSw; (try dsimp only at hSw); go_simp; with_reducible rfl)); simp only [Act.put, tA, tB, tC]
                refine tk 1 (oi := ⟨_, _, _, _, _, _⟩) (v := ?_) rfl (by rfl) ?_ (by assumption) ?_; rotate_left; (focus (intro w hSw; (try dsimp only at hSw); go_simp; with_reducible rfl)); simp only [Act.put, tA, tB, tC]
                refine tk 2 (oi := ⟨_, _, _, _, _, _⟩) (v := ?_) rfl (by rfl) ?_ (by assumption) ?_; rotate_left; (focus (intro w hSw; (try dsimp only at hSw); go_simp; with_reducible rfl)); simp only [Act.put, tA, tB, tC]
                refine tn 3 (oi := ⟨_, _, _, _, _, _⟩) rfl (by rfl) (by assumption) ?_; simp only [Act.put, tA, tB, tC]
                refine tn 4 (oi := ⟨_, _, _, _, _, _⟩) rfl (by rfl) (by assumption) ?_; simp only [Act.put, tA, tB, tC]
                refine tn 5 (oi := ⟨_, _, _, _, _, _⟩) rfl (by rfl) (by assumption) ?_; simp only [Act.put, tA, tB, tC]
                refine tn 6 (oi := ⟨_, _, _, _, _, _⟩) rfl (by rfl) (by assumption) ?_; simp only [Act.put, tA, tB, tC]
                refine tn 7 (oi := ⟨_, _, _, _, _, _⟩) rfl (by rfl) (by assumption) ?_; simp only [Act.put, tA, tB, tC]
                refine tn 8 (oi := ⟨_, _, _, _, _, _⟩) rfl (by rfl) (by assumption) ?_; simp only [Act.put, tA, tB, tC]
                refine tk 9 (oi := ⟨_, _, _, _, _, _⟩) (v := ?_) rfl (by rfl) ?_ (by assumption) ?_; rotate_left; (focus (intro w hSw; (try dsimp only at hSw); go_simp; with_reducible rfl)); simp only [Act.put, tA, tB, tC]
                refine tk 10 (oi := ⟨_, _, _, _, _, _⟩) (v := ?_) rfl (by rfl) ?_ (by assumption) ?_; rotate_left; (focus (intro w hSw; (try dsimp only at hSw); go_simp; with_reducible rfl)); simp only [Act.put, tA, tB, tC]
                refine wpAnyH_ready (rs := [11]) (by kernel_rfl) (by simp) ?_
                refine AllReadyH.cons (o := ⟨_, _, _, _, _, _⟩) rfl (fun K hK => ?_) (AllReadyH.nil)
                go_simp
                refine (awake_any _).mono ?_
                rintro e w12 ⟨rfl, b12⟩
                have T12 := T11.below b12
                refine hK.out _ _ ⟨blk_cell T12.P 0, blk_cell T12.P 1, blk_cell T12.P 2, blk_cell T12.P 3, blk_cell T12.Q 0, blk_cell T12.Q 1, blk_cell T12.Q 2, blk_cell T12.Q 3, blk_cell T12.A 0, blk_cell T12.A 1, blk_cell T12.A 2, blk_cell T12.A 3, blk_cell T12.B 0, blk_cell T12.B 1, blk_cell T12.B 2, blk_cell T12.B 3⟩ (fun hHeld => ?_)
                clear hK K
                refine tk 12 (oi := ⟨_, _, _, _, _, _⟩) (v := ?_) rfl (by rfl) ?_ (by assumption) ?_; rotate_left; (focus (intro w hSw; (try dsimp only at hSw); go_simp; with_reducible rfl)); simp only [Act.put, tA, tB, tC]
                refine tk 13 (oi := ⟨_, _, _, _, _, _⟩) (v := ?_) rfl (by rfl) ?_ (by assumption) ?_; rotate_left; (focus (intro w hSw; (try dsimp only at hSw); go_simp; with_reducible rfl)); simp only [Act.put, tA, tB, tC]
                refine wpAnyH_done (by kernel_rfl) (NoPanic.normal ?_) _
                go_wp2_with fail
                go_ret
                exact ⟨rfl, T12.bl⟩
              · have QY := hidI ey
                have QN : Hid (alkB false false 0 0 F T F' T' pa' na' va' ma' A pb' nb' vb' mb' B = true) := (alk_none Q3.out Q4.out).trans ey
                clear ey
                go_wp2_with fail
                refine (may3_any p0 p1 ra n1 rc sa n2 sc F T F' T' _ (hPol.below T0.bl)).mono ?_
                rw [Q1.out]
                rintro e w1 ⟨rfl, b1⟩
                have T1 := T0.below b1
                clear b1 T0
                clear c0 c1 c2 c3 x0 x1 x2 x3 d0 d1 d2 d3 u0 u1 u2 u3
                have c0 : w1.cell? ⟨g3, 0, none⟩ = some (.bool p0) := blk_cell T1.P 0
                have c1 : w1.cell? ⟨g3, 1, none⟩ = some (.bool p1) := blk_cell T1.P 1
                have c2 : w1.cell? ⟨g3, 2, none⟩ = some (.slice ra n1 rc) := blk_cell T1.P 2
                have c3 : w1.cell? ⟨g3, 3, none⟩ = some (.slice sa n2 sc) := blk_cell T1.P 3
                have x0 : w1.cell? ⟨g4, 0, none⟩ = some (.bool q0) := blk_cell T1.Q 0
                have x1 : w1.cell? ⟨g4, 1, none⟩ = some (.bool q1) := blk_cell T1.Q 1
                have x2 : w1.cell? ⟨g4, 2, none⟩ = some (.slice ra' n3 rc') := blk_cell T1.Q 2
                have x3 : w1.cell? ⟨g4, 3, none⟩ = some (.slice sa' n4 sc') := blk_cell T1.Q 3
                have d0 : w1.cell? ⟨g5, 0, none⟩ = some (.string pa') := blk_cell T1.A 0
                have d1 : w1.cell? ⟨g5, 1, none⟩ = some (.slice aa na' ca) := blk_cell T1.A 1
                have d2 : w1.cell? ⟨g5, 2, none⟩ = some (.string va') := blk_cell T1.A 2
                have d3 : w1.cell? ⟨g5, 3, none⟩ = some (.string ma') := blk_cell T1.A 3
                have u0 : w1.cell? ⟨g6, 0, none⟩ = some (.string pb') := blk_cell T1.B 0
                have u1 : w1.cell? ⟨g6, 1, none⟩ = some (.slice ab nb' cb) := blk_cell T1.B 1
                have u2 : w1.cell? ⟨g6, 2, none⟩ = some (.string vb') := blk_cell T1.B 2
                have u3 : w1.cell? ⟨g6, 3, none⟩ = some (.string mb') := blk_cell T1.B 3
                go_wp2_with fail
                refine (may3_any q0 q1 ra' n3 rc' sa' n4 sc' G U G' U' _ (hQol.below T1.bl)).mono ?_
                rw [Q2.out]
                rintro e w2 ⟨rfl, b2⟩
                have T2 := T1.below b2
                clear b2 T1
                clear c0 c1 c2 c3 x0 x1 x2 x3 d0 d1 d2 d3 u0 u1 u2 u3
                have c0 : w2.cell? ⟨g3, 0, none⟩ = some (.bool p0) := blk_cell T2.P 0
                have c1 : w2.cell? ⟨g3, 1, none⟩ = some (.bool p1) := blk_cell T2.P 1
                have c2 : w2.cell? ⟨g3, 2, none⟩ = some (.slice ra n1 rc) := blk_cell T2.P 2
                have c3 : w2.cell? ⟨g3, 3, none⟩ = some (.slice sa n2 sc) := blk_cell T2.P 3
                have x0 : w2.cell? ⟨g4, 0, none⟩ = some (.bool q0) := blk_cell T2.Q 0
                have x1 : w2.cell? ⟨g4, 1, none⟩ = some (.bool q1) := blk_cell T2.Q 1
                have x2 : w2.cell? ⟨g4, 2, none⟩ = some (.slice ra' n3 rc') := blk_cell T2.Q 2
                have x3 : w2.cell? ⟨g4, 3, none⟩ = some (.slice sa' n4 sc') := blk_cell T2.Q 3
                have d0 : w2.cell? ⟨g5, 0, none⟩ = some (.string pa') := blk_cell T2.A 0
                have d1 : w2.cell? ⟨g5, 1, none⟩ = some (.slice aa na' ca) := blk_cell T2.A 1
                have d2 : w2.cell? ⟨g5, 2, none⟩ = some (.string va') := blk_cell T2.A 2
                have d3 : w2.cell? ⟨g5, 3, none⟩ = some (.string ma') := blk_cell T2.A 3
                have u0 : w2.cell? ⟨g6, 0, none⟩ = some (.string pb') := blk_cell T2.B 0
                have u1 : w2.cell? ⟨g6, 1, none⟩ = some (.slice ab nb' cb) := blk_cell T2.B 1
                have u2 : w2.cell? ⟨g6, 2, none⟩ = some (.string vb') := blk_cell T2.B 2
                have u3 : w2.cell? ⟨g6, 3, none⟩ = some (.string mb') := blk_cell T2.B 3
                go_wp2_with fail
                refine (smayr_any pa' aa na' ca va' ma' A _ (by omega) (by omega) (hIA.below T2.bl) hIAR).mono ?_
                rw [Q3.out]
                rintro e w3 ⟨rfl, b3⟩
                have T3 := T2.below b3
                clear b3 T2
                clear c0 c1 c2 c3 x0 x1 x2 x3 d0 d1 d2 d3 u0 u1 u2 u3
                have c0 : w3.cell? ⟨g3, 0, none⟩ = some (.bool p0) := blk_cell T3.P 0
                have c1 : w3.cell? ⟨g3, 1, none⟩ = some (.bool p1) := blk_cell T3.P 1
                have c2 : w3.cell? ⟨g3, 2, none⟩ = some (.slice ra n1 rc) := blk_cell T3.P 2
                have c3 : w3.cell? ⟨g3, 3, none⟩ = some (.slice sa n2 sc) := blk_cell T3.P 3
                have x0 : w3.cell? ⟨g4, 0, none⟩ = some (.bool q0) := blk_cell T3.Q 0
                have x1 : w3.cell? ⟨g4, 1, none⟩ = some (.bool q1) := blk_cell T3.Q 1
                have x2 : w3.cell? ⟨g4, 2, none⟩ = some (.slice ra' n3 rc') := blk_cell T3.Q 2
                have x3 : w3.cell? ⟨g4, 3, none⟩ = some (.slice sa' n4 sc') := blk_cell T3.Q 3
                have d0 : w3.cell? ⟨g5, 0, none⟩ = some (.string pa') := blk_cell T3.A 0
                have d1 : w3.cell? ⟨g5, 1, none⟩ = some (.slice aa na' ca) := blk_cell T3.A 1
                have d2 : w3.cell? ⟨g5, 2, none⟩ = some (.string va') := blk_cell T3.A 2
                have d3 : w3.cell? ⟨g5, 3, none⟩ = some (.string ma') := blk_cell T3.A 3
                have u0 : w3.cell? ⟨g6, 0, none⟩ = some (.string pb') := blk_cell T3.B 0
                have u1 : w3.cell? ⟨g6, 1, none⟩ = some (.slice ab nb' cb) := blk_cell T3.B 1
                have u2 : w3.cell? ⟨g6, 2, none⟩ = some (.string vb') := blk_cell T3.B 2
                have u3 : w3.cell? ⟨g6, 3, none⟩ = some (.string mb') := blk_cell T3.B 3
                go_wp2_with fail
                refine (smayr_any pb' ab nb' cb vb' mb' B _ (by omega) (by omega) (hIB.below T3.bl) hIBR).mono ?_
                rw [Q4.out]
                rintro e w4 ⟨rfl, b4⟩
                have T4 := T3.below b4
                clear b4 T3
                clear c0 c1 c2 c3 x0 x1 x2 x3 d0 d1 d2 d3 u0 u1 u2 u3
                have c0 : w4.cell? ⟨g3, 0, none⟩ = some (.bool p0) := blk_cell T4.P 0
                have c1 : w4.cell? ⟨g3, 1, none⟩ = some (.bool p1) := blk_cell T4.P 1
                have c2 : w4.cell? ⟨g3, 2, none⟩ = some (.slice ra n1 rc) := blk_cell T4.P 2
                have c3 : w4.cell? ⟨g3, 3, none⟩ = some (.slice sa n2 sc) := blk_cell T4.P 3
                have x0 : w4.cell? ⟨g4, 0, none⟩ = some (.bool q0) := blk_cell T4.Q 0
                have x1 : w4.cell? ⟨g4, 1, none⟩ = some (.bool q1) := blk_cell T4.Q 1
                have x2 : w4.cell? ⟨g4, 2, none⟩ = some (.slice ra' n3 rc') := blk_cell T4.Q 2
                have x3 : w4.cell? ⟨g4, 3, none⟩ = some (.slice sa' n4 sc') := blk_cell T4.Q 3
                have d0 : w4.cell? ⟨g5, 0, none⟩ = some (.string pa') := blk_cell T4.A 0
                have d1 : w4.cell? ⟨g5, 1, none⟩ = some (.slice aa na' ca) := blk_cell T4.A 1
                have d2 : w4.cell? ⟨g5, 2, none⟩ = some (.string va') := blk_cell T4.A 2
                have d3 : w4.cell? ⟨g5, 3, none⟩ = some (.string ma') := blk_cell T4.A 3
                have u0 : w4.cell? ⟨g6, 0, none⟩ = some (.string pb') := blk_cell T4.B 0
                have u1 : w4.cell? ⟨g6, 1, none⟩ = some (.slice ab nb' cb) := blk_cell T4.B 1
                have u2 : w4.cell? ⟨g6, 2, none⟩ = some (.string vb') := blk_cell T4.B 2
                have u3 : w4.cell? ⟨g6, 3, none⟩ = some (.string mb') := blk_cell T4.B 3
                go_wp2_with fail
                refine (alike_any p0 p1 ra n1 rc sa n2 sc F T F' T' pa' aa na' ca va' ma' A pb' ab nb' cb vb' mb' B _ (hPol.below T4.bl) (by omega) (by omega) (by omega) (by omega) (by omega) (by omega) (by omega) (by omega) (hIA.below T4.bl) (hIB.below T4.bl)).mono ?_
                rw [QA.out]
                rintro e w5 ⟨rfl, b5⟩
                have T5 := T4.below b5
                clear b5 T4
                clear c0 c1 c2 c3 x0 x1 x2 x3 d0 d1 d2 d3 u0 u1 u2 u3
                have c0 : w5.cell? ⟨g3, 0, none⟩ = some (.bool p0) := blk_cell T5.P 0
                have c1 : w5.cell? ⟨g3, 1, none⟩ = some (.bool p1) := blk_cell T5.P 1
                have c2 : w5.cell? ⟨g3, 2, none⟩ = some (.slice ra n1 rc) := blk_cell T5.P 2
                have c3 : w5.cell? ⟨g3, 3, none⟩ = some (.slice sa n2 sc) := blk_cell T5.P 3
                have x0 : w5.cell? ⟨g4, 0, none⟩ = some (.bool q0) := blk_cell T5.Q 0
                have x1 : w5.cell? ⟨g4, 1, none⟩ = some (.bool q1) := blk_cell T5.Q 1
                have x2 : w5.cell? ⟨g4, 2, none⟩ = some (.slice ra' n3 rc') := blk_cell T5.Q 2
                have x3 : w5.cell? ⟨g4, 3, none⟩ = some (.slice sa' n4 sc') := blk_cell T5.Q 3
                have d0 : w5.cell? ⟨g5, 0, none⟩ = some (.string pa') := blk_cell T5.A 0
                have d1 : w5.cell? ⟨g5, 1, none⟩ = some (.slice aa na' ca) := blk_cell T5.A 1
                have d2 : w5.cell? ⟨g5, 2, none⟩ = some (.string va') := blk_cell T5.A 2
                have d3 : w5.cell? ⟨g5, 3, none⟩ = some (.string ma') := blk_cell T5.A 3
                have u0 : w5.cell? ⟨g6, 0, none⟩ = some (.string pb') := blk_cell T5.B 0
                have u1 : w5.cell? ⟨g6, 1, none⟩ = some (.slice ab nb' cb) := blk_cell T5.B 1
                have u2 : w5.cell? ⟨g6, 2, none⟩ = some (.string vb') := blk_cell T5.B 2
                have u3 : w5.cell? ⟨g6, 3, none⟩ = some (.string mb') := blk_cell T5.B 3
                have T6 := T5.below (Below.refl _ _).drew
                clear c0 c1 c2 c3 x0 x1 x2 x3 d0 d1 d2 d3 u0 u1 u2 u3
                go_upto_region 5 with fail
                refine wp_region_noPanic ?_
                refine wp_region_held_drew (S := (fun w' => w'.cell? ⟨g3, 0, none⟩ = some (.bool p0) ∧ w'.cell? ⟨g3, 1, none⟩ = some (.bool p1) ∧ w'.cell? ⟨g3, 2, none⟩ = some (.slice ra n1 rc) ∧ w'.cell? ⟨g3, 3, none⟩ = some (.slice sa n2 sc) ∧ w'.cell? ⟨g4, 0, none⟩ = some (.bool q0) ∧ w'.cell? ⟨g4, 1, none⟩ = some (.bool q1) ∧ w'.cell? ⟨g4, 2, none⟩ = some (.slice ra' n3 rc') ∧ w'.cell? ⟨g4, 3, none⟩ = some (.slice sa' n4 sc') ∧ w'.cell? ⟨g5, 0, none⟩ = some (.string pa') ∧ w'.cell? ⟨g5, 1, none⟩ = some (.slice aa na' ca) ∧ w'.cell? ⟨g5, 2, none⟩ = some (.string va') ∧ w'.cell? ⟨g5, 3, none⟩ = some (.string ma') ∧ w'.cell? ⟨g6, 0, none⟩ = some (.string pb') ∧ w'.cell? ⟨g6, 1, none⟩ = some (.slice ab nb' cb) ∧ w'.cell? ⟨g6, 2, none⟩ = some (.string vb') ∧ w'.cell? ⟨g6, 3, none⟩ = some (.string mb'))) (by kernel_rfl) ⟨blk_cell T6.P 0, blk_cell T6.P 1, blk_cell T6.P 2, blk_cell T6.P 3, blk_cell T6.Q 0, blk_cell T6.Q 1, blk_cell T6.Q 2, blk_cell T6.Q 3, blk_cell T6.A 0, blk_cell T6.A 1, blk_cell T6.A 2, blk_cell T6.A 3, blk_cell T6.B 0, blk_cell T6.B 1, blk_cell T6.B 2, blk_cell T6.B 3⟩ (fun hHeld => ?_)
                refine tk 0 (oi := ⟨_, _, _, _, _, _⟩) (v := ?_) rfl (by rfl) ?_ (by assumption) ?_; rotate_left; (focus (intro w hSw; (try dsimp only at hSw); go_simp; with_reducible rfl)); simp only [Act.put, tA, tB, tC]
                refine tk 1 (oi := ⟨_, _, _, _, _, _⟩) (v := ?_) rfl (by rfl) ?_ (by assumption) ?_; rotate_left; (focus (intro w hSw; (try dsimp only at hSw); go_simp; with_reducible rfl)); simp only [Act.put, tA, tB, tC]
                refine tk 2 (oi := ⟨_, _, _, _, _, _⟩) (v := ?_) rfl (by rfl) ?_ (by assumption) ?_; rotate_left; (focus (intro w hSw; (try dsimp only at hSw); go_simp; with_reducible rfl)); simp only [Act.put, tA, tB, tC]
                refine tk 3 (oi := ⟨_, _, _, _, _, _⟩) (v := ?_) rfl (by rfl) ?_ (by assumption) ?_; rotate_left; (focus (intro w hSw; (try dsimp only at hSw); go_simp; with_reducible rfl)); simp only [Act.put, tA, tB, tC]
                refine wpAnyH_ready (rs := [4]) (by kernel_rfl) (by simp) ?_
                refine AllReadyH.cons (o := ⟨_, _, _, _, _, _⟩) rfl (fun K hK => ?_) (AllReadyH.nil)
                go_simp
                refine (alike_any p0 p1 ra n1 rc sa n2 sc F T F' T' pb' ab nb' cb vb' mb' B pa' aa na' ca va' ma' A _ (hPol.below T6.bl) (by omega) (by omega) (by omega) (by omega) (by omega) (by omega) (by omega) (by omega) (hIB.below T6.bl) (hIA.below T6.bl)).mono ?_
                rw [QS.out]
                rintro e w7 ⟨rfl, b7⟩
                have T7 := T6.below b7
                refine hK.out _ _ ⟨blk_cell T7.P 0, blk_cell T7.P 1, blk_cell T7.P 2, blk_cell T7.P 3, blk_cell T7.Q 0, blk_cell T7.Q 1, blk_cell T7.Q 2, blk_cell T7.Q 3, blk_cell T7.A 0, blk_cell T7.A 1, blk_cell T7.A 2, blk_cell T7.A 3, blk_cell T7.B 0, blk_cell T7.B 1, blk_cell T7.B 2, blk_cell T7.B 3⟩ (fun hHeld => ?_)
                clear hK K
                refine tk 5 (oi := ⟨_, _, _, _, _, _⟩) (v := ?_) rfl (by rfl) ?_ (by assumption) ?_; rotate_left; (focus (intro w hSw; (try dsimp only at hSw); go_simp; with_reducible rfl)); simp only [Act.put, tA, tB, tC]
                refine tk 6 (oi := ⟨_, _, _, _, _, _⟩) (v := ?_) rfl (by rfl) ?_ (by assumption) ?_; rotate_left; (focus (intro w hSw; (try dsimp only at hSw); go_simp; with_reducible rfl)); simp only [Act.put, tA, tB, tC]
                refine tk 7 (oi := ⟨_, _, _, _, _, _⟩) (v := ?_) rfl (by rfl) ?_ (by assumption) ?_; rotate_left; (focus (intro w hSw; (try dsimp only at hSw); go_simp; with_reducible rfl)); simp only [Act.put, tA, tB, tC]
                refine tk 8 (oi := ⟨_, _, _, _, _, _⟩) (v := ?_) rfl (by rfl) ?_ (by assumption) ?_; rotate_left; (focus (intro w hSw; (try dsimp only at hSw); go_simp; with_reducible rfl)); simp only [Act.put, tA, tB, tC]
                refine tk 9 (oi := ⟨_, _, _, _, _, _⟩) (v := ?_) rfl (by rfl) ?_ (by assumption) ?_; rotate_left; (focus (intro w hSw; (try dsimp only at hSw); go_simp; with_reducible rfl)); simp only [Act.put, tA, tB, tC]
                refine wpAnyH_ready (rs := [10]) (by kernel_rfl) (by simp) ?_
                refine AllReadyH.cons (o := ⟨_, _, _, _, _, _⟩) rfl (fun K hK => ?_) (AllReadyH.nil)
                go_simp
                refine (alike_any p0 p1 ra n1 rc sa n2 sc F T F' T' pa' aa na' ca va' ma' A pa' aa na' ca va' ma' A _ (hPol.below T7.bl) (by omega) (by omega) (by omega) (by omega) (by omega) (by omega) (by omega) (by omega) (hIA.below T7.bl) (hIA.below T7.bl)).mono ?_
                rw [QR.out]
                rintro e w8 ⟨rfl, b8⟩
                have T8 := T7.below b8
                refine hK.out _ _ ⟨blk_cell T8.P 0, blk_cell T8.P 1, blk_cell T8.P 2, blk_cell T8.P 3, blk_cell T8.Q 0, blk_cell T8.Q 1, blk_cell T8.Q 2, blk_cell T8.Q 3, blk_cell T8.A 0, blk_cell T8.A 1, blk_cell T8.A 2, blk_cell T8.A 3, blk_cell T8.B 0, blk_cell T8.B 1, blk_cell T8.B 2, blk_cell T8.B 3⟩ (fun hHeld => ?_)
                clear hK K
                refine tk 11 (oi := ⟨_, _, _, _, _, _⟩) (v := ?_) rfl (by rfl) ?_ (by assumption) ?_; rotate_left; (focus (intro w hSw; (try dsimp only at hSw); go_simp; with_reducible rfl)); simp only [Act.put, tA, tB, tC]
                refine tk 12 (oi := ⟨_, _, _, _, _, _⟩) (v := ?_) rfl (by rfl) ?_ (by assumption) ?_; rotate_left; (focus (intro w hSw; (try dsimp only at hSw); go_simp; with_reducible rfl)); simp only [Act.put, tA, tB, tC]
                refine tk 13 (oi := ⟨_, _, _, _, _, _⟩) (v := ?_) rfl (by rfl) ?_ (by assumption) ?_; rotate_left; (focus (intro w hSw; (try dsimp only at hSw); go_simp; with_reducible rfl)); simp only [Act.put, tA, tB, tC]
                refine tk 14 (oi := ⟨_, _, _, _, _, _⟩) (v := ?_) rfl (by rfl) ?_ (by assumption) ?_; rotate_left; (focus (intro w hSw; (try dsimp only at hSw); go_simp; with_reducible rfl)); simp only [Act.put, tA, tB, tC]
                refine tk 15 (oi := ⟨_, _, _, _, _, _⟩) (v := ?_) rfl (by rfl) ?_ (by assumption) ?_; rotate_left; (focus (intro w hSw; (try dsimp only at hSw); go_simp; with_reducible rfl)); simp only [Act.put, tA, tB, tC]
                refine tk 16 (oi := ⟨_, _, _, _, _, _⟩) (v := ?_) rfl (by rfl) ?_ (by assumption) ?_; rotate_left; (focus (intro w hSw; (try dsimp only at hSw); go_simp; with_reducible rfl)); simp only [Act.put, tA, tB, tC]
                refine tk 18 (oi := ⟨_, _, _, _, _, _⟩) (v := ?_) rfl (by rfl) ?_ (by assumption) ?_; rotate_left; (focus (intro w hSw; (try dsimp only at hSw); go_simp; with_reducible rfl)); simp only [Act.put, tA, tB, tC]
                refine tk 19 (oi := ⟨_, _, _, _, _, _⟩) (v := ?_) rfl (by rfl) ?_ (by assumption) ?_; rotate_left; (focus (intro w hSw; (try dsimp only at hSw); go_simp; with_reducible rfl)); simp only [Act.put, tA, tB, tC]
                refine wpAnyH_ready (rs := [17]) (by kernel_rfl) (by simp) ?_
                refine AllReadyH.cons (o := ⟨_, _, _, _, _, _⟩) rfl (fun K hK => ?_) (AllReadyH.nil)
                go_simp
                refine (alike_any false false none 0 0 none 0 0 F T F' T' pa' aa na' ca va' ma' A pb' ab nb' cb vb' mb' B _ ⟨nofun, nofun, by omega, by omega⟩ (by omega) (by omega) (by omega) (by omega) (by omega) (by omega) (by omega) (by omega) (hIA.below T8.bl) (hIB.below T8.bl)).mono ?_
                rw [QN.out]
                rintro e w9 ⟨rfl, b9⟩
                have T9 := T8.below b9
                refine hK.out _ _ ⟨blk_cell T9.P 0, blk_cell T9.P 1, blk_cell T9.P 2, blk_cell T9.P 3, blk_cell T9.Q 0, blk_cell T9.Q 1, blk_cell T9.Q 2, blk_cell T9.Q 3, blk_cell T9.A 0, blk_cell T9.A 1, blk_cell T9.A 2, blk_cell T9.A 3, blk_cell T9.B 0, blk_cell T9.B 1, blk_cell T9.B 2, blk_cell T9.B 3⟩ (fun hHeld => ?_)
                clear hK K
                refine wpAnyH_ready (rs := [20]) (by kernel_rfl) (by simp) ?_
                refine AllReadyH.cons (o := ⟨_, _, _, _, _, _⟩) rfl (fun K hK => ?_) (AllReadyH.nil)
                go_simp
                refine (same_any pa' aa na' ca va' ma' A pb' ab nb' cb vb' mb' B _ (by omega) (hIA.below T9.bl) (hIB.below T9.bl)).mono ?_
                rw [QY.out]
                rintro e w10 ⟨rfl, b10⟩
                have T10 := T9.below b10
                refine hK.out _ _ ⟨blk_cell T10.P 0, blk_cell T10.P 1, blk_cell T10.P 2, blk_cell T10.P 3, blk_cell T10.Q 0, blk_cell T10.Q 1, blk_cell T10.Q 2, blk_cell T10.Q 3, blk_cell T10.A 0, blk_cell T10.A 1, blk_cell T10.A 2, blk_cell T10.A 3, blk_cell T10.B 0, blk_cell T10.B 1, blk_cell T10.B 2, blk_cell T10.B 3⟩ (fun hHeld => ?_)
                clear hK K
                refine tk 21 (oi := ⟨_, _, _, _, _, _⟩) (v := ?_) rfl (by rfl) ?_ (by assumption) ?_; rotate_left; (focus (intro w hSw; (try dsimp only at hSw); go_simp; with_reducible rfl)); simp only [Act.put, tA, tB, tC]
                refine tk 22 (oi := ⟨_, _, _, _, _, _⟩) (v := ?_) rfl (by rfl) ?_ (by assumption) ?_; rotate_left; (focus (intro w hSw; (try dsimp only at hSw); go_simp; with_reducible rfl)); simp only [Act.put, tA, tB, tC]
                refine wpAnyH_done (by kernel_rfl) (NoPanic.normal ?_) _
                have T11 := T10.below (Below.refl _ _).drew
                go_upto_region 7 with fail
                refine wp_region_noPanic ?_
                refine wp_region_held_drew (S := (fun w' => w'.cell? ⟨g3, 0, none⟩ = some (.bool p0) ∧ w'.cell? ⟨g3, 1, none⟩ = some (.bool p1) ∧ w'.cell? ⟨g3, 2, none⟩ = some (.slice ra n1 rc) ∧ w'.cell? ⟨g3, 3, none⟩ = some (.slice sa n2 sc) ∧ w'.cell? ⟨g4, 0, none⟩ = some (.bool q0) ∧ w'.cell? ⟨g4, 1, none⟩ = some (.bool q1) ∧ w'.cell? ⟨g4, 2, none⟩ = some (.slice ra' n3 rc') ∧ w'.cell? ⟨g4, 3, none⟩ = some (.slice sa' n4 sc') ∧ w'.cell? ⟨g5, 0, none⟩ = some (.string pa') ∧ w'.cell? ⟨g5, 1, none⟩ = some (.slice aa na' ca) ∧ w'.cell? ⟨g5, 2, none⟩ = some (.string va') ∧ w'.cell? ⟨g5, 3, none⟩ = some (.string ma') ∧ w'.cell? ⟨g6, 0, none⟩ = some (.string pb') ∧ w'.cell? ⟨g6, 1, none⟩ = some (.slice ab nb' cb) ∧ w'.cell? ⟨g6, 2, none⟩ = some (.string vb') ∧ w'.cell? ⟨g6, 3, none⟩ = some (.string mb'))) (by kernel_rfl) ⟨blk_cell T11.P 0, blk_cell T11.P 1, blk_cell T11.P 2, blk_cell T11.P 3, blk_cell T11.Q 0, blk_cell T11.Q 1, blk_cell T11.Q 2, blk_cell T11.Q 3, blk_cell T11.A 0, blk_cell T11.A 1, blk_cell T11.A 2, blk_cell T11.A 3, blk_cell T11.B 0, blk_cell T11.B 1, blk_cell T11.B 2, blk_cell T11.B 3⟩ (fun hHeld => ?_)
                refine tk 0 (oi := ⟨_, _, _, _, _, _⟩) (v := ?_) rfl (by rfl) ?_ (by assumption) ?_; rotate_left; (focus (intro w hSw; (try dsimp only at hSw); go_simp; with_reducible rfl)); simp only [Act.put, tA, tB, tC]
                refine tk 1 (oi := ⟨_, _, _, _, _, _⟩) (v := ?_) rfl (by rfl) ?_ (by assumption) ?_; rotate_left; (focus (intro w hSw; (try dsimp only at hSw); go_simp; with_reducible rfl)); simp only [Act.put, tA, tB, tC]
                refine tk 2 (oi := ⟨_, _, _, _, _, _⟩) (v := ?_) rfl (by rfl) ?_ (by assumption) ?_; rotate_left; (focus (intro w hSw; (try dsimp only at hSw); go_simp; with_reducible rfl)); simp only [Act.put, tA, tB, tC]
                refine tn 3 (oi := ⟨_, _, _, _, _, _⟩) rfl (by rfl) (by assumption) ?_; simp only [Act.put, tA, tB, tC]
                refine tn 4 (oi := ⟨_, _, _, _, _, _⟩) rfl (by rfl) (by assumption) ?_; simp only [Act.put, tA, tB, tC]
                refine tn 5 (oi := ⟨_, _, _, _, _, _⟩) rfl (by rfl) (by assumption) ?_; simp only [Act.put, tA, tB, tC]
                refine tn 6 (oi := ⟨_, _, _, _, _, _⟩) rfl (by rfl) (by assumption) ?_; simp only [Act.put, tA, tB, tC]
                refine tn 7 (oi := ⟨_, _, _, _, _, _⟩) rfl (by rfl) (by assumption) ?_; simp only [Act.put, tA, tB, tC]
                refine tn 8 (oi := ⟨_, _, _, _, _, _⟩) rfl (by rfl) (by assumption) ?_; simp only [Act.put, tA, tB, tC]
                refine tk 9 (oi := ⟨_, _, _, _, _, _⟩) (v := ?_) rfl (by rfl) ?_ (by assumption) ?_; rotate_left; (focus (intro w hSw; (try dsimp only at hSw); go_simp; with_reducible rfl)); simp only [Act.put, tA, tB, tC]
                refine tk 10 (oi := ⟨_, _, _, _, _, _⟩) (v := ?_) rfl (by rfl) ?_ (by assumption) ?_; rotate_left; (focus (intro w hSw; (try dsimp only at hSw); go_simp; with_reducible rfl)); simp only [Act.put, tA, tB, tC]
                refine wpAnyH_ready (rs := [11]) (by kernel_rfl) (by simp) ?_
                refine AllReadyH.cons (o := ⟨_, _, _, _, _, _⟩) rfl (fun K hK => ?_) (AllReadyH.nil)
                go_simp
                refine (awake_any _).mono ?_
                rintro e w12 ⟨rfl, b12⟩
                have T12 := T11.below b12
                refine hK.out _ _ ⟨blk_cell T12.P 0, blk_cell T12.P 1, blk_cell T12.P 2, blk_cell T12.P 3, blk_cell T12.Q 0, blk_cell T12.Q 1, blk_cell T12.Q 2, blk_cell T12.Q 3, blk_cell T12.A 0, blk_cell T12.A 1, blk_cell T12.A 2, blk_cell T12.A 3, blk_cell T12.B 0, blk_cell T12.B 1, blk_cell T12.B 2, blk_cell T12.B 3⟩ (fun hHeld => ?_)
                clear hK K
                refine tk 12 (oi := ⟨_, _, _, _, _, _⟩) (v := ?_) rfl (by rfl) ?_ (by assumption) ?_; rotate_left; (focus (intro w hSw; (try dsimp only at hSw); go_simp; with_reducible rfl)); simp only [Act.put, tA, tB, tC]
                refine tk 13 (oi := ⟨_, _, _, _, _, _⟩) (v := ?_) rfl (by rfl) ?_ (by assumption) ?_; rotate_left; (focus (intro w hSw; (try dsimp only at hSw); go_simp; with_reducible rfl)); simp only [Act.put, tA, tB, tC]
                refine wpAnyH_done (by kernel_rfl) (NoPanic.normal ?_) _
                go_wp2_with fail
                go_ret
                exact ⟨rfl, T12.bl⟩
            · have QA := hidI ez
              have QS : Hid (alkB p0 p1 n1 n2 F T F' T' pb' nb' vb' mb' B pa' na' va' ma' A = true) := (alk_symm ..).trans ez
              clear ez
              cases ey : sameB pa' na' va' ma' A pb' nb' vb' mb' B
              · have QY := hidI ey
                have QN : Hid (alkB false false 0 0 F T F' T' pa' na' va' ma' A pb' nb' vb' mb' B = false) := (alk_none Q3.out Q4.out).trans ey
                clear ey
                go_wp2_with fail
                refine (may3_any p0 p1 ra n1 rc sa n2 sc F T F' T' _ (hPol.below T0.bl)).mono ?_
                rw [Q1.out]
                rintro e w1 ⟨rfl, b1⟩
                have T1 := T0.below b1
                clear b1 T0
                clear c0 c1 c2 c3 x0 x1 x2 x3 d0 d1 d2 d3 u0 u1 u2 u3
                have c0 : w1.cell? ⟨g3, 0, none⟩ = some (.bool p0) := blk_cell T1.P 0
                have c1 : w1.cell? ⟨g3, 1, none⟩ = some (.bool p1) := blk_cell T1.P 1
                have c2 : w1.cell? ⟨g3, 2, none⟩ = some (.slice ra n1 rc) := blk_cell T1.P 2
                have c3 : w1.cell? ⟨g3, 3, none⟩ = some (.slice sa n2 sc) := blk_cell T1.P 3
                have x0 : w1.cell? ⟨g4, 0, none⟩ = some (.bool q0) := blk_cell T1.Q 0
                have x1 : w1.cell? ⟨g4, 1, none⟩ = some (.bool q1) := blk_cell T1.Q 1
                have x2 : w1.cell? ⟨g4, 2, none⟩ = some (.slice ra' n3 rc') := blk_cell T1.Q 2
                have x3 : w1.cell? ⟨g4, 3, none⟩ = some (.slice sa' n4 sc') := blk_cell T1.Q 3
                have d0 : w1.cell? ⟨g5, 0, none⟩ = some (.string pa') := blk_cell T1.A 0
                have d1 : w1.cell? ⟨g5, 1, none⟩ = some (.slice aa na' ca) := blk_cell T1.A 1
                have d2 : w1.cell? ⟨g5, 2, none⟩ = some (.string va') := blk_cell T1.A 2
                have d3 : w1.cell? ⟨g5, 3, none⟩ = some (.string ma') := blk_cell T1.A 3
                have u0 : w1.cell? ⟨g6, 0, none⟩ = some (.string pb') := blk_cell T1.B 0
                have u1 : w1.cell? ⟨g6, 1, none⟩ = some (.slice ab nb' cb) := blk_cell T1.B 1
                have u2 : w1.cell? ⟨g6, 2, none⟩ = some (.string vb') := blk_cell T1.B 2
                have u3 : w1.cell? ⟨g6, 3, none⟩ = some (.string mb') := blk_cell T1.B 3
                go_wp2_with fail
                refine (may3_any q0 q1 ra' n3 rc' sa' n4 sc' G U G' U' _ (hQol.below T1.bl)).mono ?_
                rw [Q2.out]
                rintro e w2 ⟨rfl, b2⟩
                have T2 := T1.below b2
                clear b2 T1
                clear c0 c1 c2 c3 x0 x1 x2 x3 d0 d1 d2 d3 u0 u1 u2 u3
                have c0 : w2.cell? ⟨g3, 0, none⟩ = some (.bool p0) := blk_cell T2.P 0
                have c1 : w2.cell? ⟨g3, 1, none⟩ = some (.bool p1) := blk_cell T2.P 1
                have c2 : w2.cell? ⟨g3, 2, none⟩ = some (.slice ra n1 rc) := blk_cell T2.P 2
                have c3 : w2.cell? ⟨g3, 3, none⟩ = some (.slice sa n2 sc) := blk_cell T2.P 3
                have x0 : w2.cell? ⟨g4, 0, none⟩ = some (.bool q0) := blk_cell T2.Q 0
                have x1 : w2.cell? ⟨g4, 1, none⟩ = some (.bool q1) := blk_cell T2.Q 1
                have x2 : w2.cell? ⟨g4, 2, none⟩ = some (.slice ra' n3 rc') := blk_cell T2.Q 2
                have x3 : w2.cell? ⟨g4, 3, none⟩ = some (.slice sa' n4 sc') := blk_cell T2.Q 3
                have d0 : w2.cell? ⟨g5, 0, none⟩ = some (.string pa') := blk_cell T2.A 0
                have d1 : w2.cell? ⟨g5, 1, none⟩ = some (.slice aa na' ca) := blk_cell T2.A 1
                have d2 : w2.cell? ⟨g5, 2, none⟩ = some (.string va') := blk_cell T2.A 2
                have d3 : w2.cell? ⟨g5, 3, none⟩ = some (.string ma') := blk_cell T2.A 3
                have u0 : w2.cell? ⟨g6, 0, none⟩ = some (.string pb') := blk_cell T2.B 0
                have u1 : w2.cell? ⟨g6, 1, none⟩ = some (.slice ab nb' cb) := blk_cell T2.B 1
                have u2 : w2.cell? ⟨g6, 2, none⟩ = some (.string vb') := blk_cell T2.B 2
                have u3 : w2.cell? ⟨g6, 3, none⟩ = some (.string mb') := blk_cell T2.B 3
                go_wp2_with fail
                refine (smayr_any pa' aa na' ca va' ma' A _ (by omega) (by omega) (hIA.below T2.bl) hIAR).mono ?_
                rw [Q3.out]
                rintro e w3 ⟨rfl, b3⟩
                have T3 := T2.below b3
                clear b3 T2
                clear c0 c1 c2 c3 x0 x1 x2 x3 d0 d1 d2 d3 u0 u1 u2 u3
                have c0 : w3.cell? ⟨g3, 0, none⟩ = some (.bool p0) := blk_cell T3.P 0
                have c1 : w3.cell? ⟨g3, 1, none⟩ = some (.bool p1) := blk_cell T3.P 1
                have c2 : w3.cell? ⟨g3, 2, none⟩ = some (.slice ra n1 rc) := blk_cell T3.P 2
                have c3 : w3.cell? ⟨g3, 3, none⟩ = some (.slice sa n2 sc) := blk_cell T3.P 3
                have x0 : w3.cell? ⟨g4, 0, none⟩ = some (.bool q0) := blk_cell T3.Q 0
                have x1 : w3.cell? ⟨g4, 1, none⟩ = some (.bool q1) := blk_cell T3.Q 1
                have x2 : w3.cell? ⟨g4, 2, none⟩ = some (.slice ra' n3 rc') := blk_cell T3.Q 2
                have x3 : w3.cell? ⟨g4, 3, none⟩ = some (.slice sa' n4 sc') := blk_cell T3.Q 3
                have d0 : w3.cell? ⟨g5, 0, none⟩ = some (.string pa') := blk_cell T3.A 0
                have d1 : w3.cell? ⟨g5, 1, none⟩ = some (.slice aa na' ca) := blk_cell T3.A 1
                have d2 : w3.cell? ⟨g5, 2, none⟩ = some (.string va') := blk_cell T3.A 2
                have d3 : w3.cell? ⟨g5, 3, none⟩ = some (.string ma') := blk_cell T3.A 3
                have u0 : w3.cell? ⟨g6, 0, none⟩ = some (.string pb') := blk_cell T3.B 0
                have u1 : w3.cell? ⟨g6, 1, none⟩ = some (.slice ab nb' cb) := blk_cell T3.B 1
                have u2 : w3.cell? ⟨g6, 2, none⟩ = some (.string vb') := blk_cell T3.B 2
                have u3 : w3.cell? ⟨g6, 3, none⟩ = some (.string mb') := blk_cell T3.B 3
                go_wp2_with fail
                refine (smayr_any pb' ab nb' cb vb' mb' B _ (by omega) (by omega) (hIB.below T3.bl) hIBR).mono ?_
                rw [Q4.out]
                rintro e w4 ⟨rfl, b4⟩
                have T4 := T3.below b4
                clear b4 T3
                clear c0 c1 c2 c3 x0 x1 x2 x3 d0 d1 d2 d3 u0 u1 u2 u3
                have c0 : w4.cell? ⟨g3, 0, none⟩ = some (.bool p0) := blk_cell T4.P 0
                have c1 : w4.cell? ⟨g3, 1, none⟩ = some (.bool p1) := blk_cell T4.P 1
                have c2 : w4.cell? ⟨g3, 2, none⟩ = some (.slice ra n1 rc) := blk_cell T4.P 2
                have c3 : w4.cell? ⟨g3, 3, none⟩ = some (.slice sa n2 sc) := blk_cell T4.P 3
                have x0 : w4.cell? ⟨g4, 0, none⟩ = some (.bool q0) := blk_cell T4.Q 0
                have x1 : w4.cell? ⟨g4, 1, none⟩ = some (.bool q1) := blk_cell T4.Q 1
                have x2 : w4.cell? ⟨g4, 2, none⟩ = some (.slice ra' n3 rc') := blk_cell T4.Q 2
                have x3 : w4.cell? ⟨g4, 3, none⟩ = some (.slice sa' n4 sc') := blk_cell T4.Q 3
                have d0 : w4.cell? ⟨g5, 0, none⟩ = some (.string pa') := blk_cell T4.A 0
                have d1 : w4.cell? ⟨g5, 1, none⟩ = some (.slice aa na' ca) := blk_cell T4.A 1
                have d2 : w4.cell? ⟨g5, 2, none⟩ = some (.string va') := blk_cell T4.A 2
                have d3 : w4.cell? ⟨g5, 3, none⟩ = some (.string ma') := blk_cell T4.A 3
                have u0 : w4.cell? ⟨g6, 0, none⟩ = some (.string pb') := blk_cell T4.B 0
                have u1 : w4.cell? ⟨g6, 1, none⟩ = some (.slice ab nb' cb) := blk_cell T4.B 1
                have u2 : w4.cell? ⟨g6, 2, none⟩ = some (.string vb') := blk_cell T4.B 2
                have u3 : w4.cell? ⟨g6, 3, none⟩ = some (.string mb') := blk_cell T4.B 3
                go_wp2_with fail
                refine (alike_any p0 p1 ra n1 rc sa n2 sc F T F' T' pa' aa na' ca va' ma' A pb' ab nb' cb vb' mb' B _ (hPol.below T4.bl) (by omega) (by omega) (by omega) (by omega) (by omega) (by omega) (by omega) (by omega) (hIA.below T4.bl) (hIB.below T4.bl)).mono ?_
                rw [QA.out]
                rintro e w5 ⟨rfl, b5⟩
                have T5 := T4.below b5
                clear b5 T4
                clear c0 c1 c2 c3 x0 x1 x2 x3 d0 d1 d2 d3 u0 u1 u2 u3
                have c0 : w5.cell? ⟨g3, 0, none⟩ = some (.bool p0) := blk_cell T5.P 0
                have c1 : w5.cell? ⟨g3, 1, none⟩ = some (.bool p1) := blk_cell T5.P 1
                have c2 : w5.cell? ⟨g3, 2, none⟩ = some (.slice ra n1 rc) := blk_cell T5.P 2
                have c3 : w5.cell? ⟨g3, 3, none⟩ = some (.slice sa n2 sc) := blk_cell T5.P 3
                have x0 : w5.cell? ⟨g4, 0, none⟩ = some (.bool q0) := blk_cell T5.Q 0
                have x1 : w5.cell? ⟨g4, 1, none⟩ = some (.bool q1) := blk_cell T5.Q 1
                have x2 : w5.cell? ⟨g4, 2, none⟩ = some (.slice ra' n3 rc') := blk_cell T5.Q 2
                have x3 : w5.cell? ⟨g4, 3, none⟩ = some (.slice sa' n4 sc') := blk_cell T5.Q 3
                have d0 : w5.cell? ⟨g5, 0, none⟩ = some (.string pa') := blk_cell T5.A 0
                have d1 : w5.cell? ⟨g5, 1, none⟩ = some (.slice aa na' ca) := blk_cell T5.A 1
                have d2 : w5.cell? ⟨g5, 2, none⟩ = some (.string va') := blk_cell T5.A 2
                have d3 : w5.cell? ⟨g5, 3, none⟩ = some (.string ma') := blk_cell T5.A 3
                have u0 : w5.cell? ⟨g6, 0, none⟩ = some (.string pb') := blk_cell T5.B 0
                have u1 : w5.cell? ⟨g6, 1, none⟩ = some (.slice ab nb' cb) := blk_cell T5.B 1
                have u2 : w5.cell? ⟨g6, 2, none⟩ = some (.string vb') := blk_cell T5.B 2
                have u3 : w5.cell? ⟨g6, 3, none⟩ = some (.string mb') := blk_cell T5.B 3
                have T6 := T5.below (Below.refl _ _).drew
                clear c0 c1 c2 c3 x0 x1 x2 x3 d0 d1 d2 d3 u0 u1 u2 u3
                go_upto_region 5 with fail
                refine wp_region_noPanic ?_
                refine wp_region_held_drew (S := (fun w' => w'.cell? ⟨g3, 0, none⟩ = some (.bool p0) ∧ w'.cell? ⟨g3, 1, none⟩ = some (.bool p1) ∧ w'.cell? ⟨g3, 2, none⟩ = some (.slice ra n1 rc) ∧ w'.cell? ⟨g3, 3, none⟩ = some (.slice sa n2 sc) ∧ w'.cell? ⟨g4, 0, none⟩ = some (.bool q0) ∧ w'.cell? ⟨g4, 1, none⟩ = some (.bool q1) ∧ w'.cell? ⟨g4, 2, none⟩ = some (.slice ra' n3 rc') ∧ w'.cell? ⟨g4, 3, none⟩ = some (.slice sa' n4 sc') ∧ w'.cell? ⟨g5, 0, none⟩ = some (.string pa') ∧ w'.cell? ⟨g5, 1, none⟩ = some (.slice aa na' ca) ∧ w'.cell? ⟨g5, 2, none⟩ = some (.string va') ∧ w'.cell? ⟨g5, 3, none⟩ = some (.string ma') ∧ w'.cell? ⟨g6, 0, none⟩ = some (.string pb') ∧ w'.cell? ⟨g6, 1, none⟩ = some (.slice ab nb' cb) ∧ w'.cell? ⟨g6, 2, none⟩ = some (.string vb') ∧ w'.cell? ⟨g6, 3, none⟩ = some (.string mb'))) (by kernel_rfl) ⟨blk_cell T6.P 0, blk_cell T6.P 1, blk_cell T6.P 2, blk_cell T6.P 3, blk_cell T6.Q 0, blk_cell T6.Q 1, blk_cell T6.Q 2, blk_cell T6.Q 3, blk_cell T6.A 0, blk_cell T6.A 1, blk_cell T6.A 2, blk_cell T6.A 3, blk_cell T6.B 0, blk_cell T6.B 1, blk_cell T6.B 2, blk_cell T6.B 3⟩ (fun hHeld => ?_)
                refine tk 0 (oi := ⟨_, _, _, _, _, _⟩) (v := ?_) rfl (by rfl) ?_ (by assumption) ?_; rotate_left; (focus (intro w hSw; (try dsimp only at hSw); go_simp; with_reducible rfl)); simp only [Act.put, tA, tB, tC]
                refine tk 1 (oi := ⟨_, _, _, _, _, _⟩) (v := ?_) rfl (by rfl) ?_ (by assumption) ?_; rotate_left; (focus (intro w hSw; (try dsimp only at hSw); go_simp; with_reducible rfl)); simp only [Act.put, tA, tB, tC]
                refine tk 2 (oi := ⟨_, _, _, _, _, _⟩) (v := ?_) rfl (by rfl) ?_ (by assumption) ?_; rotate_left; (focus (intro w hSw; (try dsimp only at hSw); go_simp; with_reducible rfl)); simp only [Act.put, tA, tB, tC]
                refine tk 3 (oi := ⟨_, _, _, _, _, _⟩) (v := ?_) rfl (by rfl) ?_ (by assumption) ?_; rotate_left; (focus (intro w hSw; (try dsimp only at hSw); go_simp; with_reducible rfl)); simp only [Act.put, tA, tB, tC]
                refine wpAnyH_ready (rs := [4]) (by kernel_rfl) (by simp) ?_
                refine AllReadyH.cons (o := ⟨_, _, _, _, _, _⟩) rfl (fun K hK => ?_) (AllReadyH.nil)
                go_simp
                refine (alike_any p0 p1 ra n1 rc sa n2 sc F T F' T' pb' ab nb' cb vb' mb' B pa' aa na' ca va' ma' A _ (hPol.below T6.bl) (by omega) (by omega) (by omega) (by omega) (by omega) (by omega) (by omega) (by omega) (hIB.below T6.bl) (hIA.below T6.bl)).mono ?_
                rw [QS.out]
                rintro e w7 ⟨rfl, b7⟩
                have T7 := T6.below b7
                refine hK.out _ _ ⟨blk_cell T7.P 0, blk_cell T7.P 1, blk_cell T7.P 2, blk_cell T7.P 3, blk_cell T7.Q 0, blk_cell T7.Q 1, blk_cell T7.Q 2, blk_cell T7.Q 3, blk_cell T7.A 0, blk_cell T7.A 1, blk_cell T7.A 2, blk_cell T7.A 3, blk_cell T7.B 0, blk_cell T7.B 1, blk_cell T7.B 2, blk_cell T7.B 3⟩ (fun hHeld => ?_)
                clear hK K
                refine tk 5 (oi := ⟨_, _, _, _, _, _⟩) (v := ?_) rfl (by rfl) ?_ (by assumption) ?_; rotate_left; (focus (intro w hSw; (try dsimp only at hSw); go_simp; with_reducible rfl)); simp only [Act.put, tA, tB, tC]
                refine tk 6 (oi := ⟨_, _, _, _, _, _⟩) (v := ?_) rfl (by rfl) ?_ (by assumption) ?_; rotate_left; (focus (intro w hSw; (try dsimp only at hSw); go_simp; with_reducible rfl)); simp only [Act.put, tA, tB, tC]
                refine tk 7 (oi := ⟨_, _, _, _, _, _⟩) (v := ?_) rfl (by rfl) ?_ (by assumption) ?_; rotate_left; (focus (intro w hSw; (try dsimp only at hSw); go_simp; with_reducible rfl)); simp only [Act.put, tA, tB, tC]
                refine tk 8 (oi := ⟨_, _, _, _, _, _⟩) (v := ?_) rfl (by rfl) ?_ (by assumption) ?_; rotate_left; (focus (intro w hSw; (try dsimp only at hSw); go_simp; with_reducible rfl)); simp only [Act.put, tA, tB, tC]
                refine tk 9 (oi := ⟨_, _, _, _, _, _⟩) (v := ?_) rfl (by rfl) ?_ (by assumption) ?_; rotate_left; (focus (intro w hSw; (try dsimp only at hSw); go_simp; with_reducible rfl)); simp only [Act.put, tA, tB, tC]
                refine wpAnyH_ready (rs := [10]) (by kernel_rfl) (by simp) ?_
                refine AllReadyH.cons (o := ⟨_, _, _, _, _, _⟩) rfl (fun K hK => ?_) (AllReadyH.nil)
                go_simp
                refine (alike_any p0 p1 ra n1 rc sa n2 sc F T F' T' pa' aa na' ca va' ma' A pa' aa na' ca va' ma' A _ (hPol.below T7.bl) (by omega) (by omega) (by omega) (by omega) (by omega) (by omega) (by omega) (by omega) (hIA.below T7.bl) (hIA.below T7.bl)).mono ?_
                rw [QR.out]
                rintro e w8 ⟨rfl, b8⟩
                have T8 := T7.below b8
                refine hK.out _ _ ⟨blk_cell T8.P 0, blk_cell T8.P 1, blk_cell T8.P 2, blk_cell T8.P 3, blk_cell T8.Q 0, blk_cell T8.Q 1, blk_cell T8.Q 2, blk_cell T8.Q 3, blk_cell T8.A 0, blk_cell T8.A 1, blk_cell T8.A 2, blk_cell T8.A 3, blk_cell T8.B 0, blk_cell T8.B 1, blk_cell T8.B 2, blk_cell T8.B 3⟩ (fun hHeld => ?_)
                clear hK K
                refine tk 11 (oi := ⟨_, _, _, _, _, _⟩) (v := ?_) rfl (by rfl) ?_ (by assumption) ?_; rotate_left; (focus (intro w hSw; (try dsimp only at hSw); go_simp; with_reducible rfl)); simp only [Act.put, tA, tB, tC]
                refine tk 12 (oi := ⟨_, _, _, _, _, _⟩) (v := ?_) rfl (by rfl) ?_ (by assumption) ?_; rotate_left; (focus (intro w hSw; (try dsimp only at hSw); go_simp; with_reducible rfl)); simp only [Act.put, tA, tB, tC]
                refine tk 13 (oi := ⟨_, _, _, _, _, _⟩) (v := ?_) rfl (by rfl) ?_ (by assumption) ?_; rotate_left; (focus (intro w hSw; (try dsimp only at hSw); go_simp; with_reducible rfl)); simp only [Act.put, tA, tB, tC]
                refine tk 14 (oi := ⟨_, _, _, _, _, _⟩) (v := ?_) rfl (by rfl) ?_ (by assumption) ?_; rotate_left; (focus (intro w hSw; (try dsimp only at hSw); go_simp; with_reducible rfl)); simp only [Act.put, tA, tB, tC]
                refine tk 15 (oi := ⟨_, _, _, _, _, _⟩) (v := ?_) rfl (by rfl) ?_ (by assumption) ?_; rotate_left; (focus (intro w hSw; (try dsimp only at hSw); go_simp; with_reducible rfl)); simp only [Act.put, tA, tB, tC]
                refine tk 16 (oi := ⟨_, _, _, _, _, _⟩) (v := ?_) rfl (by rfl) ?_ (by assumption) ?_; rotate_left; (focus (intro w hSw; (try dsimp only at hSw); go_simp; with_reducible rfl)); simp only [Act.put, tA, tB, tC]
                refine tk 18 (oi := ⟨_, _, _, _, _, _⟩) (v := ?_) rfl (by rfl) ?_ (by assumption) ?_; rotate_left; (focus (intro w hSw; (try dsimp only at hSw); go_simp; with_reducible rfl)); simp only [Act.put, tA, tB, tC]
                refine tk 19 (oi := ⟨_, _, _, _, _, _⟩) (v := ?_) rfl (by rfl) ?_ (by assumption) ?_; rotate_left; (focus (intro w hSw; (try dsimp only at hSw); go_simp; with_reducible rfl)); simp only [Act.put, tA, tB, tC]
                refine wpAnyH_ready (rs := [17]) (by kernel_rfl) (by simp) ?_
                refine AllReadyH.cons (o := ⟨_, _, _, _, _, _⟩) rfl (fun K hK => ?_) (AllReadyH.nil)
                go_simp
                refine (alike_any false false none 0 0 none 0 0 F T F' T' pa' aa na' ca va' ma' A pb' ab nb' cb vb' mb' B _ ⟨nofun, nofun, by omega, by omega⟩ (by omega) (by omega) (by omega) (by omega) (by omega) (by omega) (by omega) (by omega) (hIA.below T8.bl) (hIB.below T8.bl)).mono ?_
                rw [QN.out]
                rintro e w9 ⟨rfl, b9⟩
                have T9 := T8.below b9
                refine hK.out _ _ ⟨blk_cell T9.P 0, blk_cell T9.P 1, blk_cell T9.P 2, blk_cell T9.P 3, blk_cell T9.Q 0, blk_cell T9.Q 1, blk_cell T9.Q 2, blk_cell T9.Q 3, blk_cell T9.A 0, blk_cell T9.A 1, blk_cell T9.A 2, blk_cell T9.A 3, blk_cell T9.B 0, blk_cell T9.B 1, blk_cell T9.B 2, blk_cell T9.B 3⟩ (fun hHeld => ?_)
                clear hK K
                refine wpAnyH_ready (rs := [20]) (by kernel_rfl) (by simp) ?_
                refine AllReadyH.cons (o := ⟨_, _, _, _, _, _⟩) rfl (fun K hK => ?_) (AllReadyH.nil)
                go_simp
                refine (same_any pa' aa na' ca va' ma' A pb' ab nb' cb vb' mb' B _ (by omega) (hIA.below T9.bl) (hIB.below T9.bl)).mono ?_
                rw [QY.out]
                rintro e w10 ⟨rfl, b10⟩
                have T10 := T9.below b10
                refine hK.out _ _ ⟨blk_cell T10.P 0, blk_cell T10.P 1, blk_cell T10.P 2, blk_cell T10.P 3, blk_cell T10.Q 0, blk_cell T10.Q 1, blk_cell T10.Q 2, blk_cell T10.Q 3, blk_cell T10.A 0, blk_cell T10.A 1, blk_cell T10.A 2, blk_cell T10.A 3, blk_cell T10.B 0, blk_cell T10.B 1, blk_cell T10.B 2, blk_cell T10.B 3⟩ (fun hHeld => ?_)
                clear hK K
                refine tk 21 (oi := ⟨_, _, _, _, _, _⟩) (v := ?_) rfl (by rfl) ?_ (by assumption) ?_; rotate_left; (focus (intro w hSw; (try dsimp only at hSw); go_simp; with_reducible rfl)); simp only [Act.put, tA, tB, tC]
                refine tk 22 (oi := ⟨_, _, _, _, _, _⟩) (v := ?_) rfl (by rfl) ?_ (by assumption) ?_; rotate_left; (focus (intro w hSw; (try dsimp only at hSw); go_simp; with_reducible rfl)); simp only [Act.put, tA, tB, tC]
                refine wpAnyH_done (by kernel_rfl) (NoPanic.normal ?_) _
                have T11 := T10.below (Below.refl _ _).drew
                go_upto_region 7 with fail
                refine wp_region_noPanic ?_
                refine wp_region_held_drew (S := (fun w' => w'.cell? ⟨g3, 0, none⟩ = some (.bool p0) ∧ w'.cell? ⟨g3, 1, none⟩ = some (.bool p1) ∧ w'.cell? ⟨g3, 2, none⟩ = some (.slice ra n1 rc) ∧ w'.cell? ⟨g3, 3, none⟩ = some (.slice sa n2 sc) ∧ w'.cell? ⟨g4, 0, none⟩ = some (.bool q0) ∧ w'.cell? ⟨g4, 1, none⟩ = some (.bool q1) ∧ w'.cell? ⟨g4, 2, none⟩ = some (.slice ra' n3 rc') ∧ w'.cell? ⟨g4, 3, none⟩ = some (.slice sa' n4 sc') ∧ w'.cell? ⟨g5, 0, none⟩ = some (.string pa') ∧ w'.cell? ⟨g5, 1, none⟩ = some (.slice aa na' ca) ∧ w'.cell? ⟨g5, 2, none⟩ = some (.string va') ∧ w'.cell? ⟨g5, 3, none⟩ = some (.string ma') ∧ w'.cell? ⟨g6, 0, none⟩ = some (.string pb') ∧ w'.cell? ⟨g6, 1, none⟩ = some (.slice ab nb' cb) ∧ w'.cell? ⟨g6, 2, none⟩ = some (.string vb') ∧ w'.cell? ⟨g6, 3, none⟩ = some (.string mb'))) (by kernel_rfl) ⟨blk_cell T11.P 0, blk_cell T11.P 1, blk_cell T11.P 2, blk_cell T11.P 3, blk_cell T11.Q 0, blk_cell T11.Q 1, blk_cell T11.Q 2, blk_cell T11.Q 3, blk_cell T11.A 0, blk_cell T11.A 1, blk_cell T11.A 2, blk_cell T11.A 3, blk_cell T11.B 0, blk_cell T11.B 1, blk_cell T11.B 2, blk_cell T11.B 3⟩ (fun hHeld => ?_)
                refine tk 0 (oi := ⟨_, _, _, _, _, _⟩) (v := ?_) rfl (by rfl) ?_ (by assumption) ?_; rotate_left; (focus (intro w hSw; (try dsimp only at hSw); go_simp; with_reducible rfl)); simp only [Act.put, tA, tB, tC]
                refine tk 1 (oi := ⟨_, _, _, _, _, _⟩) (v := ?_) rfl (by rfl) ?_ (by assumption) ?_; rotate_left; (focus (intro w hSw; (try dsimp only at hSw); go_simp; with_reducible rfl)); simp only [Act.put, tA, tB, tC]
                refine tk 2 (oi := ⟨_, _, _, _, _, _⟩) (v := ?_) rfl (by rfl) ?_ (by assumption) ?_; rotate_left; (focus (intro w hSw; (try dsimp only at hSw); go_simp; with_reducible rfl)); simp only [Act.put, tA, tB, tC]
                refine tk 3 (oi := ⟨_, _, _, _, _, _⟩) (v := ?_) rfl (by rfl) ?_ (by assumption) ?_; rotate_left; (focus (intro w hSw; (try dsimp only at hSw); go_simp; with_reducible rfl)); simp only [Act.put, tA, tB, tC]
                refine tk 4 (oi := ⟨_, _, _, _, _, _⟩) (v := ?_) rfl (by rfl) ?_ (by assumption) ?_; rotate_left; (focus (intro w hSw; (try dsimp only at hSw); go_simp; with_reducible rfl)); simp only [Act.put, tA, tB, tC]
                refine tk 6 (oi := ⟨_, _, _, _, _, _⟩) (v := ?_) rfl (by rfl) ?_ (by assumption) ?_; rotate_left; (focus (intro w hSw; (try dsimp only at hSw); go_simp; with_reducible rfl)); simp only [Act.put, tA, tB, tC]
                refine tk 7 (oi := ⟨_, _, _, _, _, _⟩) (v := ?_) rfl (by rfl) ?_ (by assumption) ?_; rotate_left; (focus (intro w hSw; (try dsimp only at hSw); go_simp; with_reducible rfl)); simp only [Act.put, tA, tB, tC]
                refine wpAnyH_ready (rs := [5]) (by kernel_rfl) (by simp) ?_
                refine AllReadyH.cons (o := ⟨_, _, _, _, _, _⟩) rfl (fun K hK => ?_) (AllReadyH.nil)
                go_simp
                refine (join_any p0 p1 ra n1 rc sa n2 sc q0 q1 ra' n3 rc' sa' n4 sc' F T F' T' G U G' U' _ (hPol.below T11.bl) (hQol.below T11.bl) (HG1.out) (HG2.out) (HG3.out) (HG4.out)).mono ?_
                rintro e w12 ⟨xa, xn, xc, ya, yn, yc, X, Y, X', Y', rfl, hXP, hr1, hr2, hi1, hi2, b12⟩
                have QJ := hidI (alk_join (p0 := p0) (p1 := p1) (q0 := q0) (q1 := q1) Q1.out Q2.out hr1 hr2 hi1 hi2 QA.out)
                clear hr1 hr2 hi1 hi2
                have T12 := T11.below b12
                refine hK.out _ _ ⟨blk_cell T12.P 0, blk_cell T12.P 1, blk_cell T12.P 2, blk_cell T12.P 3, blk_cell T12.Q 0, blk_cell T12.Q 1, blk_cell T12.Q 2, blk_cell T12.Q 3, blk_cell T12.A 0, blk_cell T12.A 1, blk_cell T12.A 2, blk_cell T12.A 3, blk_cell T12.B 0, blk_cell T12.B 1, blk_cell T12.B 2, blk_cell T12.B 3⟩ (fun hHeld => ?_)
                clear hK K
                refine wpAnyH_ready (rs := [8]) (by kernel_rfl) (by simp) ?_
                refine AllReadyH.cons (o := ⟨_, _, _, _, _, _⟩) rfl (fun K hK => ?_) (AllReadyH.nil)
                go_simp
                refine (alike_any (p0 || q0) (p1 || q1) xa xn xc ya yn yc X Y X' Y' pa' aa na' ca va' ma' A pb' ab nb' cb vb' mb' B _ hXP (by omega) (by omega) (by omega) (by omega) (by omega) (by omega) (by omega) (by omega) (hIA.below T12.bl) (hIB.below T12.bl)).mono ?_
                rw [QJ.out]
                rintro e w13 ⟨rfl, b13⟩
                have T13 := T12.below b13
                refine hK.out _ _ ⟨blk_cell T13.P 0, blk_cell T13.P 1, blk_cell T13.P 2, blk_cell T13.P 3, blk_cell T13.Q 0, blk_cell T13.Q 1, blk_cell T13.Q 2, blk_cell T13.Q 3, blk_cell T13.A 0, blk_cell T13.A 1, blk_cell T13.A 2, blk_cell T13.A 3, blk_cell T13.B 0, blk_cell T13.B 1, blk_cell T13.B 2, blk_cell T13.B 3⟩ (fun hHeld => ?_)
                clear hK K
                refine tk 9 (oi := ⟨_, _, _, _, _, _⟩) (v := ?_) rfl (by rfl) ?_ (by assumption) ?_; rotate_left; (focus (intro w hSw; (try dsimp only at hSw); go_simp; with_reducible rfl)); simp only [Act.put, tA, tB, tC]
                refine tk 10 (oi := ⟨_, _, _, _, _, _⟩) (v := ?_) rfl (by rfl) ?_ (by assumption) ?_; rotate_left; (focus (intro w hSw; (try dsimp only at hSw); go_simp; with_reducible rfl)); simp only [Act.put, tA, tB, tC]
                refine wpAnyH_ready (rs := [11]) (by kernel_rfl) (by simp) ?_
                refine AllReadyH.cons (o := ⟨_, _, _, _, _, _⟩) rfl (fun K hK => ?_) (AllReadyH.nil)
                go_simp
                refine (awake_any _).mono ?_
                rintro e w14 ⟨rfl, b14⟩
                have T14 := T13.below b14
                refine hK.out _ _ ⟨blk_cell T14.P 0, blk_cell T14.P 1, blk_cell T14.P 2, blk_cell T14.P 3, blk_cell T14.Q 0, blk_cell T14.Q 1, blk_cell T14.Q 2, blk_cell T14.Q 3, blk_cell T14.A 0, blk_cell T14.A 1, blk_cell T14.A 2, blk_cell T14.A 3, blk_cell T14.B 0, blk_cell T14.B 1, blk_cell T14.B 2, blk_cell T14.B 3⟩ (fun hHeld => ?_)
                clear hK K
                refine tk 12 (oi := ⟨_, _, _, _, _, _⟩) (v := ?_) rfl (by rfl) ?_ (by assumption) ?_; rotate_left; (focus (intro w hSw; (try dsimp only at hSw); go_simp; with_reducible rfl)); simp only [Act.put, tA, tB, tC]
                refine tk 13 (oi := ⟨_, _, _, _, _, _⟩) (v := ?_) rfl (by rfl) ?_ (by assumption) ?_; rotate_left; (focus (intro w hSw; (try dsimp only at hSw); go_simp; with_reducible rfl)); simp only [Act.put, tA, tB, tC]
                refine wpAnyH_done (by kernel_rfl) (NoPanic.normal ?_) _
                go_wp2_with fail
                go_ret
                exact ⟨rfl, T14.bl⟩
              · have QY := hidI ey
                have QN : Hid (alkB false false 0 0 F T F' T' pa' na' va' ma' A pb' nb' vb' mb' B = true) := (alk_none Q3.out Q4.out).trans ey
                clear ey
                go_wp2_with fail
                refine (may3_any p0 p1 ra n1 rc sa n2 sc F T F' T' _ (hPol.below T0.bl)).mono ?_
                rw [Q1.out]
                rintro e w1 ⟨rfl, b1⟩
                have T1 := T0.below b1
                clear b1 T0
                clear c0 c1 c2 c3 x0 x1 x2 x3 d0 d1 d2 d3 u0 u1 u2 u3
                have c0 : w1.cell? ⟨g3, 0, none⟩ = some (.bool p0) := blk_cell T1.P 0
                have c1 : w1.cell? ⟨g3, 1, none⟩ = some (.bool p1) := blk_cell T1.P 1
                have c2 : w1.cell? ⟨g3, 2, none⟩ = some (.slice ra n1 rc) := blk_cell T1.P 2
                have c3 : w1.cell? ⟨g3, 3, none⟩ = some (.slice sa n2 sc) := blk_cell T1.P 3
                have x0 : w1.cell? ⟨g4, 0, none⟩ = some (.bool q0) := blk_cell T1.Q 0
                have x1 : w1.cell? ⟨g4, 1, none⟩ = some (.bool q1) := blk_cell T1.Q 1
                have x2 : w1.cell? ⟨g4, 2, none⟩ = some (.slice ra' n3 rc') := blk_cell T1.Q 2
                have x3 : w1.cell? ⟨g4, 3, none⟩ = some (.slice sa' n4 sc') := blk_cell T1.Q 3
                have d0 : w1.cell? ⟨g5, 0, none⟩ = some (.string pa') := blk_cell T1.A 0
                have d1 : w1.cell? ⟨g5, 1, none⟩ = some (.slice aa na' ca) := blk_cell T1.A 1
                have d2 : w1.cell? ⟨g5, 2, none⟩ = some (.string va') := blk_cell T1.A 2
                have d3 : w1.cell? ⟨g5, 3, none⟩ = some (.string ma') := blk_cell T1.A 3
                have u0 : w1.cell? ⟨g6, 0, none⟩ = some (.string pb') := blk_cell T1.B 0
                have u1 : w1.cell? ⟨g6, 1, none⟩ = some (.slice ab nb' cb) := blk_cell T1.B 1
                have u2 : w1.cell? ⟨g6, 2, none⟩ = some (.string vb') := blk_cell T1.B 2
                have u3 : w1.cell? ⟨g6, 3, none⟩ = some (.string mb') := blk_cell T1.B 3
                go_wp2_with fail
                refine (may3_any q0 q1 ra' n3 rc' sa' n4 sc' G U G' U' _ (hQol.below T1.bl)).mono ?_
                rw [Q2.out]
                rintro e w2 ⟨rfl, b2⟩
                have T2 := T1.below b2
                clear b2 T1
                clear c0 c1 c2 c3 x0 x1 x2 x3 d0 d1 d2 d3 u0 u1 u2 u3
                have c0 : w2.cell? ⟨g3, 0, none⟩ = some (.bool p0) := blk_cell T2.P 0
                have c1 : w2.cell? ⟨g3, 1, none⟩ = some (.bool p1) := blk_cell T2.P 1
                have c2 : w2.cell? ⟨g3, 2, none⟩ = some (.slice ra n1 rc) := blk_cell T2.P 2
                have c3 : w2.cell? ⟨g3, 3, none⟩ = some (.slice sa n2 sc) := blk_cell T2.P 3
                have x0 : w2.cell? ⟨g4, 0, none⟩ = some (.bool q0) := blk_cell T2.Q 0
                have x1 : w2.cell? ⟨g4, 1, none⟩ = some (.bool q1) := blk_cell T2.Q 1
                have x2 : w2.cell? ⟨g4, 2, none⟩ = some (.slice ra' n3 rc') := blk_cell T2.Q 2
                have x3 : w2.cell? ⟨g4, 3, none⟩ = some (.slice sa' n4 sc') := blk_cell T2.Q 3
                have d0 : w2.cell? ⟨g5, 0, none⟩ = some (.string pa') := blk_cell T2.A 0
                have d1 : w2.cell? ⟨g5, 1, none⟩ = some (.slice aa na' ca) := blk_cell T2.A 1
                have d2 : w2.cell? ⟨g5, 2, none⟩ = some (.string va') := blk_cell T2.A 2
                have d3 : w2.cell? ⟨g5, 3, none⟩ = some (.string ma') := blk_cell T2.A 3
                have u0 : w2.cell? ⟨g6, 0, none⟩ = some (.string pb') := blk_cell T2.B 0
                have u1 : w2.cell? ⟨g6, 1, none⟩ = some (.slice ab nb' cb) := blk_cell T2.B 1
                have u2 : w2.cell? ⟨g6, 2, none⟩ = some (.string vb') := blk_cell T2.B 2
                have u3 : w2.cell? ⟨g6, 3, none⟩ = some (.string mb') := blk_cell T2.B 3
                go_wp2_with fail
                refine (smayr_any pa' aa na' ca va' ma' A _ (by omega) (by omega) (hIA.below T2.bl) hIAR).mono ?_
                rw [Q3.out]
                rintro e w3 ⟨rfl, b3⟩
                have T3 := T2.below b3
                clear b3 T2
                clear c0 c1 c2 c3 x0 x1 x2 x3 d0 d1 d2 d3 u0 u1 u2 u3
                have c0 : w3.cell? ⟨g3, 0, none⟩ = some (.bool p0) := blk_cell T3.P 0
                have c1 : w3.cell? ⟨g3, 1, none⟩ = some (.bool p1) := blk_cell T3.P 1
                have c2 : w3.cell? ⟨g3, 2, none⟩ = some (.slice ra n1 rc) := blk_cell T3.P 2
                have c3 : w3.cell? ⟨g3, 3, none⟩ = some (.slice sa n2 sc) := blk_cell T3.P 3
                have x0 : w3.cell? ⟨g4, 0, none⟩ = some (.bool q0) := blk_cell T3.Q 0
                have x1 : w3.cell? ⟨g4, 1, none⟩ = some (.bool q1) := blk_cell T3.Q 1
                have x2 : w3.cell? ⟨g4, 2, none⟩ = some (.slice ra' n3 rc') := blk_cell T3.Q 2
                have x3 : w3.cell? ⟨g4, 3, none⟩ = some (.slice sa' n4 sc') := blk_cell T3.Q 3
                have d0 : w3.cell? ⟨g5, 0, none⟩ = some (.string pa') := blk_cell T3.A 0
                have d1 : w3.cell? ⟨g5, 1, none⟩ = some (.slice aa na' ca) := blk_cell T3.A 1
                have d2 : w3.cell? ⟨g5, 2, none⟩ = some (.string va') := blk_cell T3.A 2
                have d3 : w3.cell? ⟨g5, 3, none⟩ = some (.string ma') := blk_cell T3.A 3
                have u0 : w3.cell? ⟨g6, 0, none⟩ = some (.string pb') := blk_cell T3.B 0
                have u1 : w3.cell? ⟨g6, 1, none⟩ = some (.slice ab nb' cb) := blk_cell T3.B 1
                have u2 : w3.cell? ⟨g6, 2, none⟩ = some (.string vb') := blk_cell T3.B 2
                have u3 : w3.cell? ⟨g6, 3, none⟩ = some (.string mb') := blk_cell T3.B 3
                go_wp2_with fail
                refine (smayr_any pb' ab nb' cb vb' mb' B _ (by omega) (by omega) (hIB.below T3.bl) hIBR).mono ?_
                rw [Q4.out]
                rintro e w4 ⟨rfl, b4⟩
                have T4 := T3.below b4
                clear b4 T3
                clear c0 c1 c2 c3 x0 x1 x2 x3 d0 d1 d2 d3 u0 u1 u2 u3
                have c0 : w4.cell? ⟨g3, 0, none⟩ = some (.bool p0) := blk_cell T4.P 0
                have c1 : w4.cell? ⟨g3, 1, none⟩ = some (.bool p1) := blk_cell T4.P 1
                have c2 : w4.cell? ⟨g3, 2, none⟩ = some (.slice ra n1 rc) := blk_cell T4.P 2
                have c3 : w4.cell? ⟨g3, 3, none⟩ = some (.slice sa n2 sc) := blk_cell T4.P 3
                have x0 : w4.cell? ⟨g4, 0, none⟩ = some (.bool q0) := blk_cell T4.Q 0
                have x1 : w4.cell? ⟨g4, 1, none⟩ = some (.bool q1) := blk_cell T4.Q 1
                have x2 : w4.cell? ⟨g4, 2, none⟩ = some (.slice ra' n3 rc') := blk_cell T4.Q 2
                have x3 : w4.cell? ⟨g4, 3, none⟩ = some (.slice sa' n4 sc') := blk_cell T4.Q 3
                have d0 : w4.cell? ⟨g5, 0, none⟩ = some (.string pa') := blk_cell T4.A 0
                have d1 : w4.cell? ⟨g5, 1, none⟩ = some (.slice aa na' ca) := blk_cell T4.A 1
                have d2 : w4.cell? ⟨g5, 2, none⟩ = some (.string va') := blk_cell T4.A 2
                have d3 : w4.cell? ⟨g5, 3, none⟩ = some (.string ma') := blk_cell T4.A 3
                have u0 : w4.cell? ⟨g6, 0, none⟩ = some (.string pb') := blk_cell T4.B 0
                have u1 : w4.cell? ⟨g6, 1, none⟩ = some (.slice ab nb' cb) := blk_cell T4.B 1
                have u2 : w4.cell? ⟨g6, 2, none⟩ = some (.string vb') := blk_cell T4.B 2
                have u3 : w4.cell? ⟨g6, 3, none⟩ = some (.string mb') := blk_cell T4.B 3
                go_wp2_with fail
                refine (alike_any p0 p1 ra n1 rc sa n2 sc F T F' T' pa' aa na' ca va' ma' A pb' ab nb' cb vb' mb' B _ (hPol.below T4.bl) (by omega) (by omega) (by omega) (by omega) (by omega) (by omega) (by omega) (by omega) (hIA.below T4.bl) (hIB.below T4.bl)).mono ?_
                rw [QA.out]
                rintro e w5 ⟨rfl, b5⟩
                have T5 := T4.below b5
                clear b5 T4
                clear c0 c1 c2 c3 x0 x1 x2 x3 d0 d1 d2 d3 u0 u1 u2 u3
                have c0 : w5.cell? ⟨g3, 0, none⟩ = some (.bool p0) := blk_cell T5.P 0
                have c1 : w5.cell? ⟨g3, 1, none⟩ = some (.bool p1) := blk_cell T5.P 1
                have c2 : w5.cell? ⟨g3, 2, none⟩ = some (.slice ra n1 rc) := blk_cell T5.P 2
                have c3 : w5.cell? ⟨g3, 3, none⟩ = some (.slice sa n2 sc) := blk_cell T5.P 3
                have x0 : w5.cell? ⟨g4, 0, none⟩ = some (.bool q0) := blk_cell T5.Q 0
                have x1 : w5.cell? ⟨g4, 1, none⟩ = some (.bool q1) := blk_cell T5.Q 1
                have x2 : w5.cell? ⟨g4, 2, none⟩ = some (.slice ra' n3 rc') := blk_cell T5.Q 2
                have x3 : w5.cell? ⟨g4, 3, none⟩ = some (.slice sa' n4 sc') := blk_cell T5.Q 3
                have d0 : w5.cell? ⟨g5, 0, none⟩ = some (.string pa') := blk_cell T5.A 0
                have d1 : w5.cell? ⟨g5, 1, none⟩ = some (.slice aa na' ca) := blk_cell T5.A 1
                have d2 : w5.cell? ⟨g5, 2, none⟩ = some (.string va') := blk_cell T5.A 2
                have d3 : w5.cell? ⟨g5, 3, none⟩ = some (.string ma') := blk_cell T5.A 3
                have u0 : w5.cell? ⟨g6, 0, none⟩ = some (.string pb') := blk_cell T5.B 0
                have u1 : w5.cell? ⟨g6, 1, none⟩ = some (.slice ab nb' cb) := blk_cell T5.B 1
                have u2 : w5.cell? ⟨g6, 2, none⟩ = some (.string vb') := blk_cell T5.B 2
                have u3 : w5.cell? ⟨g6, 3, none⟩ = some (.string mb') := blk_cell T5.B 3
                have T6 := T5.below (Below.refl _ _).drew
                clear c0 c1 c2 c3 x0 x1 x2 x3 d0 d1 d2 d3 u0 u1 u2 u3
                go_upto_region 5 with fail
                refine wp_region_noPanic ?_
                refine wp_region_held_drew (S := (fun w' => w'.cell? ⟨g3, 0, none⟩ = some (.bool p0) ∧ w'.cell? ⟨g3, 1, none⟩ = some (.bool p1) ∧ w'.cell? ⟨g3, 2, none⟩ = some (.slice ra n1 rc) ∧ w'.cell? ⟨g3, 3, none⟩ = some (.slice sa n2 sc) ∧ w'.cell? ⟨g4, 0, none⟩ = some (.bool q0) ∧ w'.cell? ⟨g4, 1, none⟩ = some (.bool q1) ∧ w'.cell? ⟨g4, 2, none⟩ = some (.slice ra' n3 rc') ∧ w'.cell? ⟨g4, 3, none⟩ = some (.slice sa' n4 sc') ∧ w'.cell? ⟨g5, 0, none⟩ = some (.string pa') ∧ w'.cell? ⟨g5, 1, none⟩ = some (.slice aa na' ca) ∧ w'.cell? ⟨g5, 2, none⟩ = some (.string va') ∧ w'.cell? ⟨g5, 3, none⟩ = some (.string ma') ∧ w'.cell? ⟨g6, 0, none⟩ = some (.string pb') ∧ w'.cell? ⟨g6, 1, none⟩ = some (.slice ab nb' cb) ∧ w'.cell? ⟨g6, 2, none⟩ = some (.string vb') ∧ w'.cell? ⟨g6, 3, none⟩ = some (.string mb'))) (by kernel_rfl) ⟨blk_cell T6.P 0, blk_cell T6.P 1, blk_cell T6.P 2, blk_cell T6.P 3, blk_cell T6.Q 0, blk_cell T6.Q 1, blk_cell T6.Q 2, blk_cell T6.Q 3, blk_cell T6.A 0, blk_cell T6.A 1, blk_cell T6.A 2, blk_cell T6.A 3, blk_cell T6.B 0, blk_cell T6.B 1, blk_cell T6.B 2, blk_cell T6.B 3⟩ (fun hHeld => ?_)
                refine tk 0 (oi := ⟨_, _, _, _, _, _⟩) (v := ?_) rfl (by rfl) ?_ (by assumption) ?_; rotate_left; (focus (intro w hSw; (try dsimp only at hSw); go_simp; with_reducible rfl)); simp only [Act.put, tA, tB, tC]
                refine tk 1 (oi := ⟨_, _, _, _, _, _⟩) (v := ?_) rfl (by rfl) ?_ (by assumption) ?_; rotate_left; (focus (intro w hSw; (try dsimp only at hSw); go_simp; with_reducible rfl)); simp only [Act.put, tA, tB, tC]
                refine tk 2 (oi := ⟨_, _, _, _, _, _⟩) (v := ?_) rfl (by rfl) ?_ (by assumption) ?_; rotate_left; (focus (intro w hSw; (try dsimp only at hSw); go_simp; with_reducible rfl)); simp only [Act.put, tA, tB, tC]
                refine tk 3 (oi := ⟨_, _, _, _, _, _⟩) (v := ?_) rfl (by rfl) ?_ (by assumption) ?_; rotate_left; (focus (intro w hSw; (try dsimp only at hSw); go_simp; with_reducible rfl)); simp only [Act.put, tA, tB, tC]
                refine wpAnyH_ready (rs := [4]) (by kernel_rfl) (by simp) ?_
                refine AllReadyH.cons (o := ⟨_, _, _, _, _, _⟩) rfl (fun K hK => ?_) (AllReadyH.nil)
                go_simp
                refine (alike_any p0 p1 ra n1 rc sa n2 sc F T F' T' pb' ab nb' cb vb' mb' B pa' aa na' ca va' ma' A _ (hPol.below T6.bl) (by omega) (by omega) (by omega) (by omega) (by omega) (by omega) (by omega) (by omega) (hIB.below T6.bl) (hIA.below T6.bl)).mono ?_
                rw [QS.out]
                rintro e w7 ⟨rfl, b7⟩
                have T7 := T6.below b7
                refine hK.out _ _ ⟨blk_cell T7.P 0, blk_cell T7.P 1, blk_cell T7.P 2, blk_cell T7.P 3, blk_cell T7.Q 0, blk_cell T7.Q 1, blk_cell T7.Q 2, blk_cell T7.Q 3, blk_cell T7.A 0, blk_cell T7.A 1, blk_cell T7.A 2, blk_cell T7.A 3, blk_cell T7.B 0, blk_cell T7.B 1, blk_cell T7.B 2, blk_cell T7.B 3⟩ (fun hHeld => ?_)
                clear hK K
                refine tk 5 (oi := ⟨_, _, _, _, _, _⟩) (v := ?_) rfl (by rfl) ?_ (by assumption) ?_; rotate_left; (focus (intro w hSw; (try dsimp only at hSw); go_simp; with_reducible rfl)); simp only [Act.put, tA, tB, tC]
                refine tk 6 (oi := ⟨_, _, _, _, _, _⟩) (v := ?_) rfl (by rfl) ?_ (by assumption) ?_; rotate_left; (focus (intro w hSw; (try dsimp only at hSw); go_simp; with_reducible rfl)); simp only [Act.put, tA, tB, tC]
                refine tk 7 (oi := ⟨_, _, _, _, _, _⟩) (v := ?_) rfl (by rfl) ?_ (by assumption) ?_; rotate_left; (focus (intro w hSw; (try dsimp only at hSw); go_simp; with_reducible rfl)); simp only [Act.put, tA, tB, tC]
                refine tk 8 (oi := ⟨_, _, _, _, _, _⟩) (v := ?_) rfl (by rfl) ?_ (by assumption) ?_; rotate_left; (focus (intro w hSw; (try dsimp only at hSw); go_simp; with_reducible rfl)); simp only [Act.put, tA, tB, tC]
                refine tk 9 (oi := ⟨_, _, _, _, _, _⟩) (v := ?_) rfl (by rfl) ?_ (by assumption) ?_; rotate_left; (focus (intro w hSw; (try dsimp only at hSw); go_simp; with_reducible rfl)); simp only [Act.put, tA, tB, tC]
                refine wpAnyH_ready (rs := [10]) (by kernel_rfl) (by simp) ?_
                refine AllReadyH.cons (o := ⟨_, _, _, _, _, _⟩) rfl (fun K hK => ?_) (AllReadyH.nil)
                go_simp
                refine (alike_any p0 p1 ra n1 rc sa n2 sc F T F' T' pa' aa na' ca va' ma' A pa' aa na' ca va' ma' A _ (hPol.below T7.bl) (by omega) (by omega) (by omega) (by omega) (by omega) (by omega) (by omega) (by omega) (hIA.below T7.bl) (hIA.below T7.bl)).mono ?_
                rw [QR.out]
                rintro e w8 ⟨rfl, b8⟩
                have T8 := T7.below b8
                refine hK.out _ _ ⟨blk_cell T8.P 0, blk_cell T8.P 1, blk_cell T8.P 2, blk_cell T8.P 3, blk_cell T8.Q 0, blk_cell T8.Q 1, blk_cell T8.Q 2, blk_cell T8.Q 3, blk_cell T8.A 0, blk_cell T8.A 1, blk_cell T8.A 2, blk_cell T8.A 3, blk_cell T8.B 0, blk_cell T8.B 1, blk_cell T8.B 2, blk_cell T8.B 3⟩ (fun hHeld => ?_)
                clear hK K
                refine tk 11 (oi := ⟨_, _, _, _, _, _⟩) (v := ?_) rfl (by rfl) ?_ (by assumption) ?_; rotate_left; (focus (intro w hSw; (try dsimp only at hSw); go_simp; with_reducible rfl)); simp only [Act.put, tA, tB, tC]
                refine tk 12 (oi := ⟨_, _, _, _, _, _⟩) (v := ?_) rfl (by rfl) ?_ (by assumption) ?_; rotate_left; (focus (intro w hSw; (try dsimp only at hSw); go_simp; with_reducible rfl)); simp only [Act.put, tA, tB, tC]
                refine tk 13 (oi := ⟨_, _, _, _, _, _⟩) (v := ?_) rfl (by rfl) ?_ (by assumption) ?_; rotate_left; (focus (intro w hSw; (try dsimp only at hSw); go_simp; with_reducible rfl)); simp only [Act.put, tA, tB, tC]
                refine tk 14 (oi := ⟨_, _, _, _, _, _⟩) (v := ?_) rfl (by rfl) ?_ (by assumption) ?_; rotate_left; (focus (intro w hSw; (try dsimp only at hSw); go_simp; with_reducible rfl)); simp only [Act.put, tA, tB, tC]
                refine tk 15 (oi := ⟨_, _, _, _, _, _⟩) (v := ?_) rfl (by rfl) ?_ (by assumption) ?_; rotate_left; (focus (intro w hSw; (try dsimp only at hSw); go_simp; with_reducible rfl)); simp only [Act.put, tA, tB, tC]
                refine tk 16 (oi := ⟨_, _, _, _, _, _⟩) (v := ?_) rfl (by rfl) ?_ (by assumption) ?_; rotate_left; (focus (intro w hSw; (try dsimp only at hSw); go_simp; with_reducible rfl)); simp only [Act.put, tA, tB, tC]
                refine tk 18 (oi := ⟨_, _, _, _, _, _⟩) (v := ?_) rfl (by rfl) ?_ (by assumption) ?_; rotate_left; (focus (intro w hSw; (try dsimp only at hSw); go_simp; with_reducible rfl)); simp only [Act.put, tA, tB, tC]
                refine tk 19 (oi := ⟨_, _, _, _, _, _⟩) (v := ?_) rfl (by rfl) ?_ (by assumption) ?_; rotate_left; (focus (intro w hSw; (try dsimp only at hSw); go_simp; with_reducible rfl)); simp only [Act.put, tA, tB, tC]
                refine wpAnyH_ready (rs := [17]) (by kernel_rfl) (by simp) ?_
                refine AllReadyH.cons (o := ⟨_, _, _, _, _, _⟩) rfl (fun K hK => ?_) (AllReadyH.nil)
                go_simp
                refine (alike_any false false none 0 0 none 0 0 F T F' T' pa' aa na' ca va' ma' A pb' ab nb' cb vb' mb' B _ ⟨nofun, nofun, by omega, by omega⟩ (by omega) (by omega) (by omega) (by omega) (by omega) (by omega) (by omega) (by omega) (hIA.below T8.bl) (hIB.below T8.bl)).mono ?_
                rw [QN.out]
                rintro e w9 ⟨rfl, b9⟩
                have T9 := T8.below b9
                refine hK.out _ _ ⟨blk_cell T9.P 0, blk_cell T9.P 1, blk_cell T9.P 2, blk_cell T9.P 3, blk_cell T9.Q 0, blk_cell T9.Q 1, blk_cell T9.Q 2, blk_cell T9.Q 3, blk_cell T9.A 0, blk_cell T9.A 1, blk_cell T9.A 2, blk_cell T9.A 3, blk_cell T9.B 0, blk_cell T9.B 1, blk_cell T9.B 2, blk_cell T9.B 3⟩ (fun hHeld => ?_)
                clear hK K
                refine wpAnyH_ready (rs := [20]) (by kernel_rfl) (by simp) ?_
                refine AllReadyH.cons (o := ⟨_, _, _, _, _, _⟩) rfl (fun K hK => ?_) (AllReadyH.nil)
                go_simp
                refine (same_any pa' aa na' ca va' ma' A pb' ab nb' cb vb' mb' B _ (by omega) (hIA.below T9.bl) (hIB.below T9.bl)).mono ?_
                rw [QY.out]
                rintro e w10 ⟨rfl, b10⟩
                have T10 := T9.below b10
                refine hK.out _ _ ⟨blk_cell T10.P 0, blk_cell T10.P 1, blk_cell T10.P 2, blk_cell T10.P 3, blk_cell T10.Q 0, blk_cell T10.Q 1, blk_cell T10.Q 2, blk_cell T10.Q 3, blk_cell T10.A 0, blk_cell T10.A 1, blk_cell T10.A 2, blk_cell T10.A 3, blk_cell T10.B 0, blk_cell T10.B 1, blk_cell T10.B 2, blk_cell T10.B 3⟩ (fun hHeld => ?_)
                clear hK K
                refine tk 21 (oi := ⟨_, _, _, _, _, _⟩) (v := ?_) rfl (by rfl) ?_ (by assumption) ?_; rotate_left; (focus (intro w hSw; (try dsimp only at hSw); go_simp; with_reducible rfl)); simp only [Act.put, tA, tB, tC]
                refine tk 22 (oi := ⟨_, _, _, _, _, _⟩) (v := ?_) rfl (by rfl) ?_ (by assumption) ?_; rotate_left; (focus (intro w hSw; (try dsimp only at hSw); go_simp; with_reducible rfl)); simp only [Act.put, tA, tB, tC]
                refine wpAnyH_done (by kernel_rfl) (NoPanic.normal ?_) _
                have T11 := T10.below (Below.refl _ _).drew
                go_upto_region 7 with fail
                refine wp_region_noPanic ?_
                refine wp_region_held_drew (S := (fun w' => w'.cell? ⟨g3, 0, none⟩ = some (.bool p0) ∧ w'.cell? ⟨g3, 1, none⟩ = some (.bool p1) ∧ w'.cell? ⟨g3, 2, none⟩ = some (.slice ra n1 rc) ∧ w'.cell? ⟨g3, 3, none⟩ = some (.slice sa n2 sc) ∧ w'.cell? ⟨g4, 0, none⟩ = some (.bool q0) ∧ w'.cell? ⟨g4, 1, none⟩ = some (.bool q1) ∧ w'.cell? ⟨g4, 2, none⟩ = some (.slice ra' n3 rc') ∧ w'.cell? ⟨g4, 3, none⟩ = some (.slice sa' n4 sc') ∧ w'.cell? ⟨g5, 0, none⟩ = some (.string pa') ∧ w'.cell? ⟨g5, 1, none⟩ = some (.slice aa na' ca) ∧ w'.cell? ⟨g5, 2, none⟩ = some (.string va') ∧ w'.cell? ⟨g5, 3, none⟩ = some (.string ma') ∧ w'.cell? ⟨g6, 0, none⟩ = some (.string pb') ∧ w'.cell? ⟨g6, 1, none⟩ = some (.slice ab nb' cb) ∧ w'.cell? ⟨g6, 2, none⟩ = some (.string vb') ∧ w'.cell? ⟨g6, 3, none⟩ = some (.string mb'))) (by kernel_rfl) ⟨blk_cell T11.P 0, blk_cell T11.P 1, blk_cell T11.P 2, blk_cell T11.P 3, blk_cell T11.Q 0, blk_cell T11.Q 1, blk_cell T11.Q 2, blk_cell T11.Q 3, blk_cell T11.A 0, blk_cell T11.A 1, blk_cell T11.A 2, blk_cell T11.A 3, blk_cell T11.B 0, blk_cell T11.B 1, blk_cell T11.B 2, blk_cell T11.B 3⟩ (fun hHeld => ?_)
                refine tk 0 (oi := ⟨_, _, _, _, _, _⟩) (v := ?_) rfl (by rfl) ?_ (by assumption) ?_; rotate_left; (focus (intro w hSw; (try dsimp only at hSw); go_simp; with_reducible rfl)); simp only [Act.put, tA, tB, tC]
                refine tk 1 (oi := ⟨_, _, _, _, _, _⟩) (v := ?_) rfl (by rfl) ?_ (by assumption) ?_; rotate_left; (focus (intro w hSw; (try dsimp only at hSw); go_simp; with_reducible rfl)); simp only [Act.put, tA, tB, tC]
                refine tk 2 (oi := ⟨_, _, _, _, _, _⟩) (v := ?_) rfl (by rfl) ?_ (by assumption) ?_; rotate_left; (focus (intro w hSw; (try dsimp only at hSw); go_simp; with_reducible rfl)); simp only [Act.put, tA, tB, tC]
                refine tk 3 (oi := ⟨_, _, _, _, _, _⟩) (v := ?_) rfl (by rfl) ?_ (by assumption) ?_; rotate_left; (focus (intro w hSw; (try dsimp only at hSw); go_simp; with_reducible rfl)); simp only [Act.put, tA, tB, tC]
                refine tk 4 (oi := ⟨_, _, _, _, _, _⟩) (v := ?_) rfl (by rfl) ?_ (by assumption) ?_; rotate_left; (focus (intro w hSw; (try dsimp only at hSw); go_simp; with_reducible rfl)); simp only [Act.put, tA, tB, tC]
                refine tk 6 (oi := ⟨_, _, _, _, _, _⟩) (v := ?_) rfl (by rfl) ?_ (by assumption) ?_; rotate_left; (focus (intro w hSw; (try dsimp only at hSw); go_simp; with_reducible rfl)); simp only [Act.put, tA, tB, tC]
                refine tk 7 (oi := ⟨_, _, _, _, _, _⟩) (v := ?_) rfl (by rfl) ?_ (by assumption) ?_; rotate_left; (focus (intro w hSw; (try dsimp only at hSw); go_simp; with_reducible rfl)); simp only [Act.put, tA, tB, tC]
                refine wpAnyH_ready (rs := [5]) (by kernel_rfl) (by simp) ?_
                refine AllReadyH.cons (o := ⟨_, _, _, _, _, _⟩) rfl (fun K hK => ?_) (AllReadyH.nil)
                go_simp
                refine (join_any p0 p1 ra n1 rc sa n2 sc q0 q1 ra' n3 rc' sa' n4 sc' F T F' T' G U G' U' _ (hPol.below T11.bl) (hQol.below T11.bl) (HG1.out) (HG2.out) (HG3.out) (HG4.out)).mono ?_
                rintro e w12 ⟨xa, xn, xc, ya, yn, yc, X, Y, X', Y', rfl, hXP, hr1, hr2, hi1, hi2, b12⟩
                have QJ := hidI (alk_join (p0 := p0) (p1 := p1) (q0 := q0) (q1 := q1) Q1.out Q2.out hr1 hr2 hi1 hi2 QA.out)
                clear hr1 hr2 hi1 hi2
                have T12 := T11.below b12
                refine hK.out _ _ ⟨blk_cell T12.P 0, blk_cell T12.P 1, blk_cell T12.P 2, blk_cell T12.P 3, blk_cell T12.Q 0, blk_cell T12.Q 1, blk_cell T12.Q 2, blk_cell T12.Q 3, blk_cell T12.A 0, blk_cell T12.A 1, blk_cell T12.A 2, blk_cell T12.A 3, blk_cell T12.B 0, blk_cell T12.B 1, blk_cell T12.B 2, blk_cell T12.B 3⟩ (fun hHeld => ?_)
                clear hK K
                refine wpAnyH_ready (rs := [8]) (by kernel_rfl) (by simp) ?_
                refine AllReadyH.cons (o := ⟨_, _, _, _, _, _⟩) rfl (fun K hK => ?_) (AllReadyH.nil)
                go_simp
                refine (alike_any (p0 || q0) (p1 || q1) xa xn xc ya yn yc X Y X' Y' pa' aa na' ca va' ma' A pb' ab nb' cb vb' mb' B _ hXP (by omega) (by omega) (by omega) (by omega) (by omega) (by omega) (by omega) (by omega) (hIA.below T12.bl) (hIB.below T12.bl)).mono ?_
                rw [QJ.out]
                rintro e w13 ⟨rfl, b13⟩
                have T13 := T12.below b13
                refine hK.out _ _ ⟨blk_cell T13.P 0, blk_cell T13.P 1, blk_cell T13.P 2, blk_cell T13.P 3, blk_cell T13.Q 0, blk_cell T13.Q 1, blk_cell T13.Q 2, blk_cell T13.Q 3, blk_cell T13.A 0, blk_cell T13.A 1, blk_cell T13.A 2, blk_cell T13.A 3, blk_cell T13.B 0, blk_cell T13.B 1, blk_cell T13.B 2, blk_cell T13.B 3⟩ (fun hHeld => ?_)
                clear hK K
                refine tk 9 (oi := ⟨_, _, _, _, _, _⟩) (v := ?_) rfl (by rfl) ?_ (by assumption) ?_; rotate_left; (focus (intro w hSw; (try dsimp only at hSw); go_simp; with_reducible rfl)); simp only [Act.put, tA, tB, tC]
                refine tk 10 (oi := ⟨_, _, _, _, _, _⟩) (v := ?_) rfl (by rfl) ?_ (by assumption) ?_; rotate_left; (focus (intro w hSw; (try dsimp only at hSw); go_simp; with_reducible rfl)); simp only [Act.put, tA, tB, tC]
                refine wpAnyH_ready (rs := [11]) (by kernel_rfl) (by simp) ?_
                refine AllReadyH.cons (o := ⟨_, _, _, _, _, _⟩) rfl (fun K hK => ?_) (AllReadyH.nil)
                go_simp
                refine (awake_any _).mono ?_
                rintro e w14 ⟨rfl, b14⟩
                have T14 := T13.below b14
                refine hK.out _ _ ⟨blk_cell T14.P 0, blk_cell T14.P 1, blk_cell T14.P 2, blk_cell T14.P 3, blk_cell T14.Q 0, blk_cell T14.Q 1, blk_cell T14.Q 2, blk_cell T14.Q 3, blk_cell T14.A 0, blk_cell T14.A 1, blk_cell T14.A 2, blk_cell T14.A 3, blk_cell T14.B 0, blk_cell T14.B 1, blk_cell T14.B 2, blk_cell T14.B 3⟩ (fun hHeld => ?_)
                clear hK K
                refine tk 12 (oi := ⟨_, _, _, _, _, _⟩) (v := ?_) rfl (by rfl) ?_ (by assumption) ?_; rotate_left; (focus (intro w hSw; (try dsimp only at hSw); go_simp; with_reducible rfl)); simp only [Act.put, tA, tB, tC]
                refine tk 13 (oi := ⟨_, _, _, _, _, _⟩) (v := ?_) rfl (by rfl) ?_ (by assumption) ?_; rotate_left; (focus (intro w hSw; (try dsimp only at hSw); go_simp; with_reducible rfl)); simp only [Act.put, tA, tB, tC]
                refine wpAnyH_done (by kernel_rfl) (NoPanic.normal ?_) _
                go_wp2_with fail
                go_ret
                exact ⟨rfl, T14.bl⟩
end Go.Proofs.Ytkhjfcbloahjeaa
