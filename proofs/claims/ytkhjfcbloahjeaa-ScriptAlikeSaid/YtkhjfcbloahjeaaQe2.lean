import Derived.Test.YtkhjfcbloahjeaaQe1
namespace Go.Proofs.Ytkhjfcbloahjeaa
open Go.RowKit Go.Sx
def padOk (p0 p1 : Bool) (pa pb : ByteArray) (i j : Nat) : Bool := (if j = 0 then p0 else p1) || decide (bt pa (2 * i + j) = bt pb (2 * i + j))
def padAll (p0 p1 : Bool) (pa pb : ByteArray) (n : Nat) : Bool := (List.range n).all fun i => padOk p0 p1 pa pb i 0 && padOk p0 p1 pa pb i 1
def secAll (sec : Nat → Bool) (x y : ByteArray) (n : Nat) : Bool := (List.range n).all fun i => sec i || decide (bt x i = bt y i)
def ralkB (p0 p1 : Bool) (rn sn : Nat) (F T F' T' : Nat → Int) (pa : ByteArray) (na : Nat) (va ma : ByteArray) (A : Nat → Int) (pb : ByteArray) (nb : Nat) (vb mb : ByteArray) (B : Nat → Int) : Bool :=
  decide (pa.size = pb.size ∧ ma.size = mb.size ∧ va.size = vb.size) && eqR A B na nb && padAll p0 p1 pa pb (fr pa) && secAll (fun i => secB p0 p1 rn sn F T F' T' 1 (i : Int)) ma mb ma.size && secAll (fun i => secB p0 p1 rn sn F T F' T' 2 (i : Int)) va vb va.size
theorem low_sec {x y : ByteArray} (sec : Nat → Bool) (h : x.size = y.size) : lowB x y sec = secAll sec x y x.size := by
  unfold lowB secAll
  rw [← h]
  simp only [Nat.min_self, decide_true, Bool.and_true]
  congr 1
  funext i
  exact Bool.or_comm _ _
theorem low_pad {p0 p1 : Bool} {rn sn : Nat} {F T F' T' : Nat → Int} {x y : ByteArray} (h : x.size = y.size) (he : x.size % 2 = 0) : lowB x y (fun i => secB p0 p1 rn sn F T F' T' 0 ((i : Int) % 2)) = padAll p0 p1 x y (fr x) := by
  rw [low_sec _ h]
  have hsz : x.size = 2 * fr x := by unfold fr; omega
  have s0 : ∀ i : Nat, secB p0 p1 rn sn F T F' T' 0 (((2 * i + 0 : Nat) : Int) % 2) = p0 := fun i => by
    rw [show (((2 * i + 0 : Nat) : Int) % 2) = 0 by omega]; simp [secB]
  have s1 : ∀ i : Nat, secB p0 p1 rn sn F T F' T' 0 (((2 * i + 1 : Nat) : Int) % 2) = p1 := fun i => by
    rw [show (((2 * i + 1 : Nat) : Int) % 2) = 1 by omega]; simp [secB]
  unfold secAll padAll
  rw [Bool.eq_iff_iff, List.all_eq_true, List.all_eq_true]
  constructor
  · intro ha i hi
    have hi' : i < fr x := by simpa using hi
    have h0 := ha (2 * i + 0) (by simp; omega)
    have h1 := ha (2 * i + 1) (by simp; omega)
    dsimp only at h0 h1
    rw [s0] at h0
    rw [s1] at h1
    unfold padOk
    rw [if_pos rfl, if_neg (by omega), h0, h1]; rfl
  · intro ha i hi
    have hi' : i < x.size := by simpa using hi
    have hk := ha (i / 2) (by simp; omega)
    rw [Bool.and_eq_true] at hk
    unfold padOk at hk
    rw [if_pos rfl, if_neg (by omega)] at hk
    rcases Nat.mod_two_eq_zero_or_one i with e | e
    · obtain ⟨m, rfl⟩ : ∃ m, i = 2 * m + 0 := ⟨i / 2, by omega⟩
      dsimp only
      rw [s0]
      have := hk.1
      rwa [show (2 * m + 0) / 2 = m by omega] at this
    · obtain ⟨m, rfl⟩ : ∃ m, i = 2 * m + 1 := ⟨i / 2, by omega⟩
      dsimp only
      rw [s1]
      have := hk.2
      rwa [show (2 * m + 1) / 2 = m by omega] at this
theorem low_ne {x y : ByteArray} (sec : Nat → Bool) (h : x.size ≠ y.size) : lowB x y sec = false := by
  unfold lowB; rw [decide_eq_false h, Bool.and_false]
theorem mayS_even {p : ByteArray} {n : Nat} {sv rm : ByteArray} {R : Nat → Int} (h : maySB p n sv rm R = true) : p.size % 2 = 0 := by
  unfold maySB at h
  rw [Bool.and_eq_true, decide_eq_true_iff] at h
  exact h.1.1
/-- The program's answer is the document's. -/
theorem alk_ralk (p0 p1 : Bool) (rn sn : Nat) (F T F' T' : Nat → Int) (pa : ByteArray) (na : Nat) (va ma : ByteArray) (A : Nat → Int) (pb : ByteArray) (nb : Nat) (vb mb : ByteArray) (B : Nat → Int) (h1 : mayPB rn sn F T F' T' = true) (h2 : maySB pa na va ma A = true) (h3 : maySB pb nb vb mb B = true) :
    alkB p0 p1 rn sn F T F' T' pa na va ma A pb nb vb mb B = ralkB p0 p1 rn sn F T F' T' pa na va ma A pb nb vb mb B := by
  unfold alkB ralkB
  rw [h1, h2, h3]
  simp only [Bool.true_and]
  have ea := mayS_even h2
  have eb := mayS_even h3
  by_cases hp : pa.size = pb.size
  · have hf : fr pa = fr pb := by unfold fr; rw [hp]
    rw [decide_eq_true hf, low_pad hp ea]
    by_cases hm : ma.size = mb.size
    · rw [low_sec _ hm]
      by_cases hv : va.size = vb.size
      · rw [low_sec _ hv, decide_eq_true (⟨hp, hm, hv⟩ : pa.size = pb.size ∧ ma.size = mb.size ∧ va.size = vb.size)]
      · rw [low_ne _ hv, decide_eq_false (fun h => hv h.2.2)]; simp
    · rw [low_ne _ hm, decide_eq_false (fun h => hm h.2.1)]; simp
  · have hf : fr pa ≠ fr pb := by unfold fr; omega
    rw [decide_eq_false hf, decide_eq_false (fun h => hp h.1)]; simp
theorem port_cell {w : World} {g : Nat} {p0 p1 : Bool} {ra : Option Addr} {rn rc : Nat} {sa : Option Addr} {sn sc : Nat} (h : PoAt w g p0 p1 ra rn rc sa sn sc) {j : Nat} (hj : j < 2) {pv : Bool} (hv : pv = (if j = 0 then p0 else p1)) : w.cell? ⟨g, j, none⟩ = some (.bool pv) := by
  have hh : j = 0 ∨ j = 1 := by omega
  rcases hh with rfl | rfl
  · rw [hv]; exact blk_cell h 0
  · rw [hv]; exact blk_cell h 1
set_option maxRecDepth 100000 in
set_option maxHeartbeats 12800000 in
theorem ralike_any (p0 p1 : Bool) (ra : Option Addr) (rn rc : Nat) (sa : Option Addr) (sn sc : Nat) (F T F' T' : Nat → Int) (pa : ByteArray) (aa : Option Addr) (na ca : Nat) (va ma : ByteArray) (A : Nat → Int) (pb : ByteArray) (ab : Option Addr) (nb cb : Nat) (vb mb : ByteArray) (B : Nat → Int) (w : World)
    (hP : PolAt w ra rn rc sa sn sc F T F' T') (hpa : pa.size ≤ 1000000) (hpb : pb.size ≤ 1000000) (hna : na ≤ 1000000) (hva : va.size ≤ 1000000) (hma : ma.size ≤ 1000000) (hA : IntsAt w aa na A) (hB : IntsAt w ab nb B) :
    Calls Try.prog 25 #[poV p0 p1 ra rn rc sa sn sc, scV pa aa na ca va ma, scV pb ab nb cb vb mb] w fun e w' => e = .returned (.bool (ralkB p0 p1 rn sn F T F' T' pa na va ma A pb nb vb mb B)) ∧ Below w.heap.size w w' := by
  obtain ⟨z, hz⟩ : ∃ z, z = ralkB p0 p1 rn sn F T F' T' pa na va ma A pb nb vb mb B := ⟨_, rfl⟩
  rw [← hz]
  have HZ := hidI hz; clear hz
  have T0 := Tri.new w p0 p1 ra rn rc sa sn sc pa aa na ca va ma pb ab nb cb vb mb
  by_cases hs : pa.size = pb.size ∧ ma.size = mb.size ∧ va.size = vb.size
  · have HSZ : Hid (decide (pa.size = pb.size ∧ ma.size = mb.size ∧ va.size = vb.size) = true) := decide_eq_true hs
    have HFR : Hid (fr pa = fr pb) := by show _ = _; unfold fr; rw [hs.1]
    obtain ⟨s1, s2, s3⟩ := hs
    have t1 : ((pa.size : Int) != pb.size) = false := by simp; omega
    have t2 : ((ma.size : Int) != mb.size) = false := by simp; omega
    have t3 : ((va.size : Int) != vb.size) = false := by simp; omega
    have HS2 := hidI s2; have HS3 := hidI s3
    clear s1 s2 s3
    go_enter Try.func25, Try.ntmps25
    go_wp2_with fail
    refine (rsame_any aa ab na nb ca cb A B _ hna (hA.below T0.bl) (hB.below T0.bl)).mono ?_
    rintro e w1 ⟨rfl, b1⟩
    have T1 := T0.below b1
    have c0 : w1.cell? ⟨w.heap.size, 0, none⟩ = some (.bool p0) := blk_cell T1.P 0
    have c1 : w1.cell? ⟨w.heap.size, 1, none⟩ = some (.bool p1) := blk_cell T1.P 1
    have c2 : w1.cell? ⟨w.heap.size, 2, none⟩ = some (.slice ra rn rc) := blk_cell T1.P 2
    have c3 : w1.cell? ⟨w.heap.size, 3, none⟩ = some (.slice sa sn sc) := blk_cell T1.P 3
    have d0 : w1.cell? ⟨w.heap.size + 1, 0, none⟩ = some (.string pa) := blk_cell T1.A 0
    have d1 : w1.cell? ⟨w.heap.size + 1, 1, none⟩ = some (.slice aa na ca) := blk_cell T1.A 1
    have d2 : w1.cell? ⟨w.heap.size + 1, 2, none⟩ = some (.string va) := blk_cell T1.A 2
    have d3 : w1.cell? ⟨w.heap.size + 1, 3, none⟩ = some (.string ma) := blk_cell T1.A 3
    have u0 : w1.cell? ⟨w.heap.size + 1 + 1, 0, none⟩ = some (.string pb) := blk_cell T1.B 0
    have u1 : w1.cell? ⟨w.heap.size + 1 + 1, 1, none⟩ = some (.slice ab nb cb) := blk_cell T1.B 1
    have u2 : w1.cell? ⟨w.heap.size + 1 + 1, 2, none⟩ = some (.string vb) := blk_cell T1.B 2
    have u3 : w1.cell? ⟨w.heap.size + 1 + 1, 3, none⟩ = some (.string mb) := blk_cell T1.B 3
    cases hq : eqR A B na nb
    · have HQ := hidI hq; clear hq
      go_wp2_with fail
      go_ret
      exact ⟨ret_bool (by rw [HZ.out, ralkB, HQ.out]; simp), T1.bl⟩
    · have HEQ := hidI hq; clear hq
      go_wp2_with fail
      clear T0 b1
      clear c0 c1 c2 c3 d0 d1 d2 d3 u0 u1 u2 u3
      go_loopw [7] (fun i wr => ∃ k : Nat, k ≤ fr pa ∧ i = .int .i64 k ∧ padAll p0 p1 pa pb k = true ∧ Tri w wr p0 p1 ra rn rc sa sn sc pa aa na ca va ma pb ab nb cb vb mb) (fun i _ => fr pa - (intOf i).toNat)
      case atStart => exact ⟨0, Nat.zero_le _, rfl, rfl, by assumption⟩
      case round =>
        obtain ⟨k, hk, rfl, ht0, Tr⟩ := hrel
        have ht := hidI ht0; clear ht0
        have c0 : wr.cell? ⟨w.heap.size, 0, none⟩ = some (.bool p0) := blk_cell Tr.P 0
        have c1 : wr.cell? ⟨w.heap.size, 1, none⟩ = some (.bool p1) := blk_cell Tr.P 1
        have c2 : wr.cell? ⟨w.heap.size, 2, none⟩ = some (.slice ra rn rc) := blk_cell Tr.P 2
        have c3 : wr.cell? ⟨w.heap.size, 3, none⟩ = some (.slice sa sn sc) := blk_cell Tr.P 3
        have d0 : wr.cell? ⟨w.heap.size + 1, 0, none⟩ = some (.string pa) := blk_cell Tr.A 0
        have d1 : wr.cell? ⟨w.heap.size + 1, 1, none⟩ = some (.slice aa na ca) := blk_cell Tr.A 1
        have d2 : wr.cell? ⟨w.heap.size + 1, 2, none⟩ = some (.string va) := blk_cell Tr.A 2
        have d3 : wr.cell? ⟨w.heap.size + 1, 3, none⟩ = some (.string ma) := blk_cell Tr.A 3
        have u0 : wr.cell? ⟨w.heap.size + 1 + 1, 0, none⟩ = some (.string pb) := blk_cell Tr.B 0
        have u1 : wr.cell? ⟨w.heap.size + 1 + 1, 1, none⟩ = some (.slice ab nb cb) := blk_cell Tr.B 1
        have u2 : wr.cell? ⟨w.heap.size + 1 + 1, 2, none⟩ = some (.string vb) := blk_cell Tr.B 2
        have u3 : wr.cell? ⟨w.heap.size + 1 + 1, 3, none⟩ = some (.string mb) := blk_cell Tr.B 3
        by_cases hlt : k < fr pa
        · have hkf := hlt
          have hkf' : k < fr pb := by rw [← HFR.out]; exact hlt
          have hlt' : (k : Int) < (pa.size : Int) / 2 := by unfold fr at hlt; omega
          have AS := all_succ (p := fun i => padOk p0 p1 pa pb i 0 && padOk p0 p1 pa pb i 1) hlt ht.out
          have HAS := hidI AS; clear AS
          obtain ⟨wo, rfl⟩ : ∃ wo, wo = wr := ⟨_, rfl⟩
          go_wp2_with fail
          clear c0 c1 c2 c3 d0 d1 d2 d3 u0 u1 u2 u3
          go_loopw [8] (fun i wr => ∃ j : Nat, j ≤ 2 ∧ i = .int .i64 j ∧ (∀ l, l < j → padOk p0 p1 pa pb k l = true) ∧ Tri w wr p0 p1 ra rn rc sa sn sc pa aa na ca va ma pb ab nb cb vb mb) (fun i _ => 2 - (intOf i).toNat)
          case atStart => exact ⟨0, by omega, rfl, fun l hl => absurd hl (by omega), Tr⟩
          case round =>
            obtain ⟨j, hj, rfl, hok0, Tq⟩ := hrel
            have hok := hok0; clear hok0
            have HOK := hidI hok; clear hok
            have Td := Tq.below (Below.refl wr.heap.size wr).drew
            by_cases hj2 : j < 2
            · have hj2' : (j : Int) < 2 := by omega
              have hj0 : (0 : Int) ≤ (j : Int) := by omega
              obtain ⟨pv, hpv⟩ : ∃ pv, pv = (if j = 0 then p0 else p1) := ⟨_, rfl⟩
              have HPV := hidI hpv; clear hpv
              have hpv := HPV.out
              obtain ⟨x, hx⟩ : ∃ x, x = bt pa (2 * k + j) := ⟨_, rfl⟩
              obtain ⟨y, hy⟩ : ∃ y, y = bt pb (2 * k + j) := ⟨_, rfl⟩
              have Hx := hidI hx; have Hy := hidI hy; clear hx hy
              have p9 : wr.cell? ⟨w.heap.size, j, none⟩ = some (.bool pv) := port_cell Tq.P hj2 hpv
              clear hpv
              have c0 : wr.cell? ⟨w.heap.size, 0, none⟩ = some (.bool p0) := blk_cell Tq.P 0
              have c1 : wr.cell? ⟨w.heap.size, 1, none⟩ = some (.bool p1) := blk_cell Tq.P 1
              have c2 : wr.cell? ⟨w.heap.size, 2, none⟩ = some (.slice ra rn rc) := blk_cell Tq.P 2
              have c3 : wr.cell? ⟨w.heap.size, 3, none⟩ = some (.slice sa sn sc) := blk_cell Tq.P 3
              have d0 : wr.cell? ⟨w.heap.size + 1, 0, none⟩ = some (.string pa) := blk_cell Tq.A 0
              have d1 : wr.cell? ⟨w.heap.size + 1, 1, none⟩ = some (.slice aa na ca) := blk_cell Tq.A 1
              have d2 : wr.cell? ⟨w.heap.size + 1, 2, none⟩ = some (.string va) := blk_cell Tq.A 2
              have d3 : wr.cell? ⟨w.heap.size + 1, 3, none⟩ = some (.string ma) := blk_cell Tq.A 3
              have u0 : wr.cell? ⟨w.heap.size + 1 + 1, 0, none⟩ = some (.string pb) := blk_cell Tq.B 0
              have u1 : wr.cell? ⟨w.heap.size + 1 + 1, 1, none⟩ = some (.slice ab nb cb) := blk_cell Tq.B 1
              have u2 : wr.cell? ⟨w.heap.size + 1 + 1, 2, none⟩ = some (.string vb) := blk_cell Tq.B 2
              have u3 : wr.cell? ⟨w.heap.size + 1 + 1, 3, none⟩ = some (.string mb) := blk_cell Tq.B 3
              cases pv
              · by_cases hxy : x = y
                · have HE : Hid (padOk p0 p1 pa pb k j = true) := by show _ = _; unfold padOk; rw [← HPV.out, ← Hx.out, ← Hy.out]; simpa using hxy
                  subst hxy
                  go_upto_region 9 with fail
                  refine wp_region_noPanic ?_
                  refine wp_region_held_drew (S := (fun w' => w'.cell? ⟨w.heap.size, j, none⟩ = some (.bool false) ∧ w'.cell? ⟨w.heap.size + 1, 0, none⟩ = some (.string pa) ∧ w'.cell? ⟨w.heap.size + 1, 1, none⟩ = some (.slice aa na ca) ∧ w'.cell? ⟨w.heap.size + 1, 2, none⟩ = some (.string va) ∧ w'.cell? ⟨w.heap.size + 1, 3, none⟩ = some (.string ma) ∧ w'.cell? ⟨w.heap.size + 1 + 1, 0, none⟩ = some (.string pb) ∧ w'.cell? ⟨w.heap.size + 1 + 1, 1, none⟩ = some (.slice ab nb cb) ∧ w'.cell? ⟨w.heap.size + 1 + 1, 2, none⟩ = some (.string vb) ∧ w'.cell? ⟨w.heap.size + 1 + 1, 3, none⟩ = some (.string mb))) (by kernel_rfl) ⟨port_cell Tq.P hj2 HPV.out, blk_cell Tq.A 0, blk_cell Tq.A 1, blk_cell Tq.A 2, blk_cell Tq.A 3, blk_cell Tq.B 0, blk_cell Tq.B 1, blk_cell Tq.B 2, blk_cell Tq.B 3⟩ (fun hHeld => ?_)
                  refine tk 0 (oi := ⟨_, _, _, _, _, _⟩) (v := ?_) rfl (by rfl) ?_ (by assumption) ?_; rotate_left; (focus (intro w hSw; (try dsimp only at hSw); go_simp; with_reducible rfl)); simp only [Act.put, tA, tB, tC]
                  refine tk 1 (oi := ⟨_, _, _, _, _, _⟩) (v := ?_) rfl (by rfl) ?_ (by assumption) ?_; rotate_left; (focus (intro w hSw; (try dsimp only at hSw); go_simp; with_reducible rfl)); simp only [Act.put, tA, tB, tC]
                  refine tk 2 (oi := ⟨_, _, _, _, _, _⟩) (v := ?_) rfl (by rfl) ?_ (by assumption) ?_; rotate_left; (focus (intro w hSw; (try dsimp only at hSw); go_simp; with_reducible rfl)); simp only [Act.put, tA, tB, tC]
                  refine tk 3 (oi := ⟨_, _, _, _, _, _⟩) (v := ?_) rfl (by rfl) ?_ (by assumption) ?_; rotate_left; (focus (intro w hSw; (try dsimp only at hSw); go_simp; with_reducible rfl)); simp only [Act.put, tA, tB, tC]
                  refine tk 4 (oi := ⟨_, _, _, _, _, _⟩) (v := ?_) rfl (by rfl) ?_ (by assumption) ?_; rotate_left; (focus (intro w hSw; (try dsimp only at hSw); go_simp; with_reducible rfl)); simp only [Act.put, tA, tB, tC]
                  refine tk 5 (oi := ⟨_, _, _, _, _, _⟩) (v := ?_) rfl (by rfl) ?_ (by assumption) ?_; rotate_left; (focus (intro w hSw; (try dsimp only at hSw); go_simp; with_reducible rfl)); simp only [Act.put, tA, tB, tC]
                  refine tk 6 (oi := ⟨_, _, _, _, _, _⟩) (v := ?_) rfl (by rfl) ?_ (by assumption) ?_; rotate_left; (focus (intro w hSw; (try dsimp only at hSw); go_simp; with_reducible rfl)); simp only [Act.put, tA, tB, tC]
                  refine tk 7 (oi := ⟨_, _, _, _, _, _⟩) (v := ?_) rfl (by rfl) ?_ (by assumption) ?_; rotate_left; (focus (intro w hSw; (try dsimp only at hSw); go_simp; with_reducible rfl)); simp only [Act.put, tA, tB, tC]
                  refine tk 8 (oi := ⟨_, _, _, _, _, _⟩) (v := ?_) rfl (by rfl) ?_ (by assumption) ?_; rotate_left; (focus (intro w hSw; (try dsimp only at hSw); go_simp; with_reducible rfl)); simp only [Act.put, tA, tB, tC]
                  refine tk 10 (oi := ⟨_, _, _, _, _, _⟩) (v := ?_) rfl (by rfl) ?_ (by assumption) ?_; rotate_left; (focus (intro w hSw; (try dsimp only at hSw); go_simp; with_reducible rfl)); simp only [Act.put, tA, tB, tC]
                  refine tk 11 (oi := ⟨_, _, _, _, _, _⟩) (v := ?_) rfl (by rfl) ?_ (by assumption) ?_; rotate_left; (focus (intro w hSw; (try dsimp only at hSw); go_simp; with_reducible rfl)); simp only [Act.put, tA, tB, tC]
                  refine tk 12 (oi := ⟨_, _, _, _, _, _⟩) (v := ?_) rfl (by rfl) ?_ (by assumption) ?_; rotate_left; (focus (intro w hSw; (try dsimp only at hSw); go_simp; with_reducible rfl)); simp only [Act.put, tA, tB, tC]
                  refine wpAnyH_ready (rs := [9]) (by kernel_rfl) (by simp) ?_
                  refine AllReadyH.cons (o := ⟨_, _, _, _, _, _⟩) rfl (fun K hK => ?_) (AllReadyH.nil)
                  go_simp
                  refine (rpad_is pa aa na ca va ma k j _ x (by omega) hkf hj2 Hx.out).mono ?_
                  rintro e w9 ⟨rfl, b9⟩
                  have T9 := Td.below b9
                  refine hK.out _ _ ⟨port_cell T9.P hj2 HPV.out, blk_cell T9.A 0, blk_cell T9.A 1, blk_cell T9.A 2, blk_cell T9.A 3, blk_cell T9.B 0, blk_cell T9.B 1, blk_cell T9.B 2, blk_cell T9.B 3⟩ (fun hHeld => ?_)
                  clear hK K
                  refine wpAnyH_ready (rs := [13]) (by kernel_rfl) (by simp) ?_
                  refine AllReadyH.cons (o := ⟨_, _, _, _, _, _⟩) rfl (fun K hK => ?_) (AllReadyH.nil)
                  go_simp
                  refine (rpad_is pb ab nb cb vb mb k j _ x (by omega) hkf' hj2 Hy.out).mono ?_
                  rintro e w13 ⟨rfl, b13⟩
                  have T13 := T9.below b13
                  refine hK.out _ _ ⟨port_cell T13.P hj2 HPV.out, blk_cell T13.A 0, blk_cell T13.A 1, blk_cell T13.A 2, blk_cell T13.A 3, blk_cell T13.B 0, blk_cell T13.B 1, blk_cell T13.B 2, blk_cell T13.B 3⟩ (fun hHeld => ?_)
                  clear hK K
                  refine tk 14 (oi := ⟨_, _, _, _, _, _⟩) (v := ?_) rfl (by rfl) ?_ (by assumption) ?_; rotate_left; (focus (intro w hSw; (try dsimp only at hSw); go_simp; with_reducible rfl)); simp only [Act.put, tA, tB, tC]
                  refine tk 15 (oi := ⟨_, _, _, _, _, _⟩) (v := ?_) rfl (by rfl) ?_ (by assumption) ?_; rotate_left; (focus (intro w hSw; (try dsimp only at hSw); go_simp; with_reducible rfl)); simp only [Act.put, tA, tB, tC]
                  refine wpAnyH_done (by kernel_rfl) (NoPanic.normal ?_) _
                  go_wp2_with fail
                  go_roundw
                  case rel =>
                    refine ⟨j + 1, by omega, by simp, fun l hl => ?_, T13⟩
                    by_cases e : l = j
                    · subst e; exact HE.out
                    · exact HOK.out l (by omega)
                  case measure => simp [intOf]; omega
                · have HE : Hid (padOk p0 p1 pa pb k j = false) := by show _ = _; unfold padOk; rw [← HPV.out, ← Hx.out, ← Hy.out]; simpa using hxy
                  have hne : (x != y) = true := by simpa using hxy
                  go_upto_region 9 with fail
                  refine wp_region_noPanic ?_
                  refine wp_region_held_drew (S := (fun w' => w'.cell? ⟨w.heap.size, j, none⟩ = some (.bool false) ∧ w'.cell? ⟨w.heap.size + 1, 0, none⟩ = some (.string pa) ∧ w'.cell? ⟨w.heap.size + 1, 1, none⟩ = some (.slice aa na ca) ∧ w'.cell? ⟨w.heap.size + 1, 2, none⟩ = some (.string va) ∧ w'.cell? ⟨w.heap.size + 1, 3, none⟩ = some (.string ma) ∧ w'.cell? ⟨w.heap.size + 1 + 1, 0, none⟩ = some (.string pb) ∧ w'.cell? ⟨w.heap.size + 1 + 1, 1, none⟩ = some (.slice ab nb cb) ∧ w'.cell? ⟨w.heap.size + 1 + 1, 2, none⟩ = some (.string vb) ∧ w'.cell? ⟨w.heap.size + 1 + 1, 3, none⟩ = some (.string mb))) (by kernel_rfl) ⟨port_cell Tq.P hj2 HPV.out, blk_cell Tq.A 0, blk_cell Tq.A 1, blk_cell Tq.A 2, blk_cell Tq.A 3, blk_cell Tq.B 0, blk_cell Tq.B 1, blk_cell Tq.B 2, blk_cell Tq.B 3⟩ (fun hHeld => ?_)
                  refine tk 0 (oi := ⟨_, _, _, _, _, _⟩) (v := ?_) rfl (by rfl) ?_ (by assumption) ?_; rotate_left; (focus (intro w hSw; (try dsimp only at hSw); go_simp; with_reducible rfl)); simp only [Act.put, tA, tB, tC]
                  refine tk 1 (oi := ⟨_, _, _, _, _, _⟩) (v := ?_) rfl (by rfl) ?_ (by assumption) ?_; rotate_left; (focus (intro w hSw; (try dsimp only at hSw); go_simp; with_reducible rfl)); simp only [Act.put, tA, tB, tC]
                  refine tk 2 (oi := ⟨_, _, _, _, _, _⟩) (v := ?_) rfl (by rfl) ?_ (by assumption) ?_; rotate_left; (focus (intro w hSw; (try dsimp only at hSw); go_simp; with_reducible rfl)); simp only [Act.put, tA, tB, tC]
                  refine tk 3 (oi := ⟨_, _, _, _, _, _⟩) (v := ?_) rfl (by rfl) ?_ (by assumption) ?_; rotate_left; (focus (intro w hSw; (try dsimp only at hSw); go_simp; with_reducible rfl)); simp only [Act.put, tA, tB, tC]
                  refine tk 4 (oi := ⟨_, _, _, _, _, _⟩) (v := ?_) rfl (by rfl) ?_ (by assumption) ?_; rotate_left; (focus (intro w hSw; (try dsimp only at hSw); go_simp; with_reducible rfl)); simp only [Act.put, tA, tB, tC]
                  refine tk 5 (oi := ⟨_, _, _, _, _, _⟩) (v := ?_) rfl (by rfl) ?_ (by assumption) ?_; rotate_left; (focus (intro w hSw; (try dsimp only at hSw); go_simp; with_reducible rfl)); simp only [Act.put, tA, tB, tC]
                  refine tk 6 (oi := ⟨_, _, _, _, _, _⟩) (v := ?_) rfl (by rfl) ?_ (by assumption) ?_; rotate_left; (focus (intro w hSw; (try dsimp only at hSw); go_simp; with_reducible rfl)); simp only [Act.put, tA, tB, tC]
                  refine tk 7 (oi := ⟨_, _, _, _, _, _⟩) (v := ?_) rfl (by rfl) ?_ (by assumption) ?_; rotate_left; (focus (intro w hSw; (try dsimp only at hSw); go_simp; with_reducible rfl)); simp only [Act.put, tA, tB, tC]
                  refine tk 8 (oi := ⟨_, _, _, _, _, _⟩) (v := ?_) rfl (by rfl) ?_ (by assumption) ?_; rotate_left; (focus (intro w hSw; (try dsimp only at hSw); go_simp; with_reducible rfl)); simp only [Act.put, tA, tB, tC]
                  refine tk 10 (oi := ⟨_, _, _, _, _, _⟩) (v := ?_) rfl (by rfl) ?_ (by assumption) ?_; rotate_left; (focus (intro w hSw; (try dsimp only at hSw); go_simp; with_reducible rfl)); simp only [Act.put, tA, tB, tC]
                  refine tk 11 (oi := ⟨_, _, _, _, _, _⟩) (v := ?_) rfl (by rfl) ?_ (by assumption) ?_; rotate_left; (focus (intro w hSw; (try dsimp only at hSw); go_simp; with_reducible rfl)); simp only [Act.put, tA, tB, tC]
                  refine tk 12 (oi := ⟨_, _, _, _, _, _⟩) (v := ?_) rfl (by rfl) ?_ (by assumption) ?_; rotate_left; (focus (intro w hSw; (try dsimp only at hSw); go_simp; with_reducible rfl)); simp only [Act.put, tA, tB, tC]
                  refine wpAnyH_ready (rs := [9]) (by kernel_rfl) (by simp) ?_
                  refine AllReadyH.cons (o := ⟨_, _, _, _, _, _⟩) rfl (fun K hK => ?_) (AllReadyH.nil)
                  go_simp
                  refine (rpad_is pa aa na ca va ma k j _ x (by omega) hkf hj2 Hx.out).mono ?_
                  rintro e w9 ⟨rfl, b9⟩
                  have T9 := Td.below b9
                  refine hK.out _ _ ⟨port_cell T9.P hj2 HPV.out, blk_cell T9.A 0, blk_cell T9.A 1, blk_cell T9.A 2, blk_cell T9.A 3, blk_cell T9.B 0, blk_cell T9.B 1, blk_cell T9.B 2, blk_cell T9.B 3⟩ (fun hHeld => ?_)
                  clear hK K
                  refine wpAnyH_ready (rs := [13]) (by kernel_rfl) (by simp) ?_
                  refine AllReadyH.cons (o := ⟨_, _, _, _, _, _⟩) rfl (fun K hK => ?_) (AllReadyH.nil)
                  go_simp
                  refine (rpad_is pb ab nb cb vb mb k j _ y (by omega) hkf' hj2 Hy.out).mono ?_
                  rintro e w13 ⟨rfl, b13⟩
                  have T13 := T9.below b13
                  refine hK.out _ _ ⟨port_cell T13.P hj2 HPV.out, blk_cell T13.A 0, blk_cell T13.A 1, blk_cell T13.A 2, blk_cell T13.A 3, blk_cell T13.B 0, blk_cell T13.B 1, blk_cell T13.B 2, blk_cell T13.B 3⟩ (fun hHeld => ?_)
                  clear hK K
                  refine tk 14 (oi := ⟨_, _, _, _, _, _⟩) (v := ?_) rfl (by rfl) ?_ (by assumption) ?_; rotate_left; (focus (intro w hSw; (try dsimp only at hSw); go_simp; with_reducible rfl)); simp only [Act.put, tA, tB, tC]
                  refine tk 15 (oi := ⟨_, _, _, _, _, _⟩) (v := ?_) rfl (by rfl) ?_ (by assumption) ?_; rotate_left; (focus (intro w hSw; (try dsimp only at hSw); go_simp; with_reducible rfl)); simp only [Act.put, tA, tB, tC]
                  refine wpAnyH_done (by kernel_rfl) (NoPanic.normal ?_) _
                  go_wp2_with fail
                  go_ret
                  exact ⟨ret_bool (by rw [HZ.out, ralkB, HSZ.out, HEQ.out, show padAll p0 p1 pa pb (fr pa) = false from HAS.out.2 (by
                    have hh : j = 0 ∨ j = 1 := by omega
                    rcases hh with rfl | rfl
                    · rw [HE.out]; rfl
                    · rw [HE.out, Bool.and_false])]; simp), T13.bl⟩
              · have HE : Hid (padOk p0 p1 pa pb k j = true) := by show _ = _; unfold padOk; rw [← HPV.out]; rfl
                go_upto_region 9 with fail
                refine wp_region_noPanic ?_
                refine wp_region_held_drew (S := (fun w' => w'.cell? ⟨w.heap.size, j, none⟩ = some (.bool true) ∧ w'.cell? ⟨w.heap.size + 1, 0, none⟩ = some (.string pa) ∧ w'.cell? ⟨w.heap.size + 1, 1, none⟩ = some (.slice aa na ca) ∧ w'.cell? ⟨w.heap.size + 1, 2, none⟩ = some (.string va) ∧ w'.cell? ⟨w.heap.size + 1, 3, none⟩ = some (.string ma) ∧ w'.cell? ⟨w.heap.size + 1 + 1, 0, none⟩ = some (.string pb) ∧ w'.cell? ⟨w.heap.size + 1 + 1, 1, none⟩ = some (.slice ab nb cb) ∧ w'.cell? ⟨w.heap.size + 1 + 1, 2, none⟩ = some (.string vb) ∧ w'.cell? ⟨w.heap.size + 1 + 1, 3, none⟩ = some (.string mb))) (by kernel_rfl) ⟨port_cell Tq.P hj2 HPV.out, blk_cell Tq.A 0, blk_cell Tq.A 1, blk_cell Tq.A 2, blk_cell Tq.A 3, blk_cell Tq.B 0, blk_cell Tq.B 1, blk_cell Tq.B 2, blk_cell Tq.B 3⟩ (fun hHeld => ?_)
                refine tk 0 (oi := ⟨_, _, _, _, _, _⟩) (v := ?_) rfl (by rfl) ?_ (by assumption) ?_; rotate_left; (focus (intro w hSw; (try dsimp only at hSw); go_simp; with_reducible rfl)); simp only [Act.put, tA, tB, tC]
                refine tk 1 (oi := ⟨_, _, _, _, _, _⟩) (v := ?_) rfl (by rfl) ?_ (by assumption) ?_; rotate_left; (focus (intro w hSw; (try dsimp only at hSw); go_simp; with_reducible rfl)); simp only [Act.put, tA, tB, tC]
                refine tk 2 (oi := ⟨_, _, _, _, _, _⟩) (v := ?_) rfl (by rfl) ?_ (by assumption) ?_; rotate_left; (focus (intro w hSw; (try dsimp only at hSw); go_simp; with_reducible rfl)); simp only [Act.put, tA, tB, tC]
                refine tk 3 (oi := ⟨_, _, _, _, _, _⟩) (v := ?_) rfl (by rfl) ?_ (by assumption) ?_; rotate_left; (focus (intro w hSw; (try dsimp only at hSw); go_simp; with_reducible rfl)); simp only [Act.put, tA, tB, tC]
                refine tk 4 (oi := ⟨_, _, _, _, _, _⟩) (v := ?_) rfl (by rfl) ?_ (by assumption) ?_; rotate_left; (focus (intro w hSw; (try dsimp only at hSw); go_simp; with_reducible rfl)); simp only [Act.put, tA, tB, tC]
                refine tk 5 (oi := ⟨_, _, _, _, _, _⟩) (v := ?_) rfl (by rfl) ?_ (by assumption) ?_; rotate_left; (focus (intro w hSw; (try dsimp only at hSw); go_simp; with_reducible rfl)); simp only [Act.put, tA, tB, tC]
                refine tn 6 (oi := ⟨_, _, _, _, _, _⟩) rfl (by rfl) (by assumption) ?_; simp only [Act.put, tA, tB, tC]
                refine tn 7 (oi := ⟨_, _, _, _, _, _⟩) rfl (by rfl) (by assumption) ?_; simp only [Act.put, tA, tB, tC]
                refine tn 8 (oi := ⟨_, _, _, _, _, _⟩) rfl (by rfl) (by assumption) ?_; simp only [Act.put, tA, tB, tC]
                refine tn 9 (oi := ⟨_, _, _, _, _, _⟩) rfl (by rfl) (by assumption) ?_; simp only [Act.put, tA, tB, tC]
                refine tn 10 (oi := ⟨_, _, _, _, _, _⟩) rfl (by rfl) (by assumption) ?_; simp only [Act.put, tA, tB, tC]
                refine tn 11 (oi := ⟨_, _, _, _, _, _⟩) rfl (by rfl) (by assumption) ?_; simp only [Act.put, tA, tB, tC]
                refine tn 12 (oi := ⟨_, _, _, _, _, _⟩) rfl (by rfl) (by assumption) ?_; simp only [Act.put, tA, tB, tC]
                refine tn 13 (oi := ⟨_, _, _, _, _, _⟩) rfl (by rfl) (by assumption) ?_; simp only [Act.put, tA, tB, tC]
                refine tn 14 (oi := ⟨_, _, _, _, _, _⟩) rfl (by rfl) (by assumption) ?_; simp only [Act.put, tA, tB, tC]
                refine tk 15 (oi := ⟨_, _, _, _, _, _⟩) (v := ?_) rfl (by rfl) ?_ (by assumption) ?_; rotate_left; (focus (intro w hSw; (try dsimp only at hSw); go_simp; with_reducible rfl)); simp only [Act.put, tA, tB, tC]
                refine wpAnyH_done (by kernel_rfl) (NoPanic.normal ?_) _
                go_wp2_with fail
                go_roundw
                case rel =>
                  refine ⟨j + 1, by omega, by simp, fun l hl => ?_, Td⟩
                  by_cases e : l = j
                  · subst e; exact HE.out
                  · exact HOK.out l (by omega)
                case measure => simp [intOf]; omega
            · obtain rfl : j = 2 := by omega
              go_wp2_with fail
              go_roundw
              case rel => exact ⟨k + 1, by omega, by simp, HAS.out.1 (by rw [HOK.out 0 (by omega), HOK.out 1 (by omega)]; rfl), Tq⟩
              case measure => simp [intOf]; omega
        · obtain rfl : k = fr pa := by omega
          have hlt' : ¬ ((fr pa : Int) < (pa.size : Int) / 2) := by unfold fr; omega
          have HPD := ht
          obtain ⟨wq, rfl⟩ : ∃ wq, wq = wr := ⟨_, rfl⟩
          clear ht hlt hk
          go_wp2_with fail
          go_loopw [9] (fun i wr => ∃ k : Nat, k ≤ ma.size ∧ i = .int .i64 k ∧ secAll (fun i => secB p0 p1 rn sn F T F' T' 1 (i : Int)) ma mb k = true ∧ Tri w wr p0 p1 ra rn rc sa sn sc pa aa na ca va ma pb ab nb cb vb mb) (fun i _ => ma.size - (intOf i).toNat)
          case atStart => exact ⟨0, Nat.zero_le _, rfl, rfl, by assumption⟩
          case round =>
            obtain ⟨k, hk, rfl, ht0, Tr⟩ := hrel
            have ht := hidI ht0; clear ht0
            have Td := Tr.below (Below.refl wr.heap.size wr).drew
            have c0 : wr.cell? ⟨w.heap.size, 0, none⟩ = some (.bool p0) := blk_cell Tr.P 0
            have c1 : wr.cell? ⟨w.heap.size, 1, none⟩ = some (.bool p1) := blk_cell Tr.P 1
            have c2 : wr.cell? ⟨w.heap.size, 2, none⟩ = some (.slice ra rn rc) := blk_cell Tr.P 2
            have c3 : wr.cell? ⟨w.heap.size, 3, none⟩ = some (.slice sa sn sc) := blk_cell Tr.P 3
            have d0 : wr.cell? ⟨w.heap.size + 1, 0, none⟩ = some (.string pa) := blk_cell Tr.A 0
            have d1 : wr.cell? ⟨w.heap.size + 1, 1, none⟩ = some (.slice aa na ca) := blk_cell Tr.A 1
            have d2 : wr.cell? ⟨w.heap.size + 1, 2, none⟩ = some (.string va) := blk_cell Tr.A 2
            have d3 : wr.cell? ⟨w.heap.size + 1, 3, none⟩ = some (.string ma) := blk_cell Tr.A 3
            have u0 : wr.cell? ⟨w.heap.size + 1 + 1, 0, none⟩ = some (.string pb) := blk_cell Tr.B 0
            have u1 : wr.cell? ⟨w.heap.size + 1 + 1, 1, none⟩ = some (.slice ab nb cb) := blk_cell Tr.B 1
            have u2 : wr.cell? ⟨w.heap.size + 1 + 1, 2, none⟩ = some (.string vb) := blk_cell Tr.B 2
            have u3 : wr.cell? ⟨w.heap.size + 1 + 1, 3, none⟩ = some (.string mb) := blk_cell Tr.B 3
            by_cases hlt : k < ma.size
            · have hlt' : (k : Int) < ma.size := by omega
              have hlty : k < mb.size := by have := HS2.out; have := HS3.out; omega
              have hlty' : (k : Int) < mb.size := by omega
              have hk0 : (0 : Int) ≤ (k : Int) := by omega
              obtain ⟨x0, hx0⟩ : ∃ x0, x0 = bt ma k := ⟨_, rfl⟩
              obtain ⟨y0, hy0⟩ : ∃ y0, y0 = bt mb k := ⟨_, rfl⟩
              have x1 : ((ma[k]'hlt).toNat : Int) = x0 := (bt_eq ma k hlt).trans hx0.symm
              have y1 : ((mb[k]'hlty).toNat : Int) = y0 := (bt_eq mb k hlty).trans hy0.symm
              cases hs : secB p0 p1 rn sn F T F' T' 1 (k : Int)
              · have HS := hidI hs; clear hs
                by_cases hxy : x0 = y0
                · have HE : Hid ((false || decide (bt ma k = bt mb k)) = true) := by show _ = _; rw [← hx0, ← hy0]; simpa using hxy
                  clear hx0 hy0
                  subst hxy
                  go_upto_region 14 with fail
                  refine wp_region_noPanic ?_
                  refine wp_region_held_drew (S := (fun w' => w'.cell? ⟨w.heap.size, 0, none⟩ = some (.bool p0) ∧ w'.cell? ⟨w.heap.size, 1, none⟩ = some (.bool p1) ∧ w'.cell? ⟨w.heap.size, 2, none⟩ = some (.slice ra rn rc) ∧ w'.cell? ⟨w.heap.size, 3, none⟩ = some (.slice sa sn sc) ∧ w'.cell? ⟨w.heap.size + 1, 3, none⟩ = some (.string ma) ∧ w'.cell? ⟨w.heap.size + 1 + 1, 3, none⟩ = some (.string mb))) (by kernel_rfl) ⟨blk_cell Tr.P 0, blk_cell Tr.P 1, blk_cell Tr.P 2, blk_cell Tr.P 3, blk_cell Tr.A 3, blk_cell Tr.B 3⟩ (fun hHeld => ?_)
                  refine tk 0 (oi := ⟨_, _, _, _, _, _⟩) (v := ?_) rfl (by rfl) ?_ (by assumption) ?_; rotate_left; (focus (intro w hSw; (try dsimp only at hSw); go_simp; with_reducible rfl)); simp only [Act.put, tA, tB, tC]
                  refine tk 1 (oi := ⟨_, _, _, _, _, _⟩) (v := ?_) rfl (by rfl) ?_ (by assumption) ?_; rotate_left; (focus (intro w hSw; (try dsimp only at hSw); go_simp; with_reducible rfl)); simp only [Act.put, tA, tB, tC]
                  refine wpAnyH_ready (rs := [2]) (by kernel_rfl) (by simp) ?_
                  refine AllReadyH.cons (o := ⟨_, _, _, _, _, _⟩) rfl (fun K hK => ?_) (AllReadyH.nil)
                  go_simp
                  refine (rsec_any p0 p1 ra rn rc sa sn sc F T F' T' 1 (k : Int) _ (hP.below Td.bl)).mono ?_
                  rw [HS.out]
                  rintro e w2 ⟨rfl, b2⟩
                  have T2 := Td.below b2
                  refine hK.out _ _ ⟨blk_cell T2.P 0, blk_cell T2.P 1, blk_cell T2.P 2, blk_cell T2.P 3, blk_cell T2.A 3, blk_cell T2.B 3⟩ (fun hHeld => ?_)
                  clear hK K
                  refine tk 3 (oi := ⟨_, _, _, _, _, _⟩) (v := ?_) rfl (by rfl) ?_ (by assumption) ?_; rotate_left; (focus (intro w hSw; (try dsimp only at hSw); go_simp; with_reducible rfl)); simp only [Act.put, tA, tB, tC]
                  refine tk 4 (oi := ⟨_, _, _, _, _, _⟩) (v := ?_) rfl (by rfl) ?_ (by assumption) ?_; rotate_left; (focus (intro w hSw; (try dsimp only at hSw); go_simp; with_reducible rfl)); simp only [Act.put, tA, tB, tC]
                  refine tk 5 (oi := ⟨_, _, _, _, _, _⟩) (v := ?_) rfl (by rfl) ?_ (by assumption) ?_; rotate_left; (focus (intro w hSw; (try dsimp only at hSw); go_simp; with_reducible rfl)); simp only [Act.put, tA, tB, tC]
                  refine tk 6 (oi := ⟨_, _, _, _, _, _⟩) (v := ?_) rfl (by rfl) ?_ (by assumption) ?_; rotate_left; (focus (intro w hSw; (try dsimp only at hSw); go_simp; with_reducible rfl)); simp only [Act.put, tA, tB, tC]
                  refine tk 7 (oi := ⟨_, _, _, _, _, _⟩) (v := ?_) rfl (by rfl) ?_ (by assumption) ?_; rotate_left; (focus (intro w hSw; (try dsimp only at hSw); go_simp; with_reducible rfl)); simp only [Act.put, tA, tB, tC]
                  refine tk 8 (oi := ⟨_, _, _, _, _, _⟩) (v := ?_) rfl (by rfl) ?_ (by assumption) ?_; rotate_left; (focus (intro w hSw; (try dsimp only at hSw); go_simp; with_reducible rfl)); simp only [Act.put, tA, tB, tC]
                  refine tk 9 (oi := ⟨_, _, _, _, _, _⟩) (v := ?_) rfl (by rfl) ?_ (by assumption) ?_; rotate_left; (focus (intro w hSw; (try dsimp only at hSw); go_simp; with_reducible rfl)); simp only [Act.put, tA, tB, tC]
                  refine tk 10 (oi := ⟨_, _, _, _, _, _⟩) (v := ?_) rfl (by rfl) ?_ (by assumption) ?_; rotate_left; (focus (intro w hSw; (try dsimp only at hSw); go_simp; with_reducible rfl)); simp only [Act.put, tA, tB, tC]
                  refine tk 11 (oi := ⟨_, _, _, _, _, _⟩) (v := ?_) rfl (by rfl) ?_ (by assumption) ?_; rotate_left; (focus (intro w hSw; (try dsimp only at hSw); go_simp; with_reducible rfl)); simp only [Act.put, tA, tB, tC]
                  refine tk 12 (oi := ⟨_, _, _, _, _, _⟩) (v := ?_) rfl (by rfl) ?_ (by assumption) ?_; rotate_left; (focus (intro w hSw; (try dsimp only at hSw); go_simp; with_reducible rfl)); simp only [Act.put, tA, tB, tC]
                  refine tk 13 (oi := ⟨_, _, _, _, _, _⟩) (v := ?_) rfl (by rfl) ?_ (by assumption) ?_; rotate_left; (focus (intro w hSw; (try dsimp only at hSw); go_simp; with_reducible rfl)); simp only [Act.put, tA, tB, tC]
                  refine tk 14 (oi := ⟨_, _, _, _, _, _⟩) (v := ?_) rfl (by rfl) ?_ (by assumption) ?_; rotate_left; (focus (intro w hSw; (try dsimp only at hSw); go_simp; with_reducible rfl)); simp only [Act.put, tA, tB, tC]
                  refine wpAnyH_done (by kernel_rfl) (NoPanic.normal ?_) _
                  go_wp2_with fail
                  go_roundw
                  case rel => exact ⟨k + 1, by omega, by simp, (all_succ (p := fun i => secB p0 p1 rn sn F T F' T' 1 (i : Int) || decide (bt ma i = bt mb i)) hlt ht.out).1 (by rw [HS.out]; first | rfl | exact HE.out), T2⟩
                  case measure => simp [intOf]; omega
                · have HE : Hid ((false || decide (bt ma k = bt mb k)) = false) := by show _ = _; rw [← hx0, ← hy0]; simpa using hxy
                  have hne : (x0 != y0) = true := by simpa using hxy
                  clear hx0 hy0
                  go_upto_region 14 with fail
                  refine wp_region_noPanic ?_
                  refine wp_region_held_drew (S := (fun w' => w'.cell? ⟨w.heap.size, 0, none⟩ = some (.bool p0) ∧ w'.cell? ⟨w.heap.size, 1, none⟩ = some (.bool p1) ∧ w'.cell? ⟨w.heap.size, 2, none⟩ = some (.slice ra rn rc) ∧ w'.cell? ⟨w.heap.size, 3, none⟩ = some (.slice sa sn sc) ∧ w'.cell? ⟨w.heap.size + 1, 3, none⟩ = some (.string ma) ∧ w'.cell? ⟨w.heap.size + 1 + 1, 3, none⟩ = some (.string mb))) (by kernel_rfl) ⟨blk_cell Tr.P 0, blk_cell Tr.P 1, blk_cell Tr.P 2, blk_cell Tr.P 3, blk_cell Tr.A 3, blk_cell Tr.B 3⟩ (fun hHeld => ?_)
                  refine tk 0 (oi := ⟨_, _, _, _, _, _⟩) (v := ?_) rfl (by rfl) ?_ (by assumption) ?_; rotate_left; (focus (intro w hSw; (try dsimp only at hSw); go_simp; with_reducible rfl)); simp only [Act.put, tA, tB, tC]
                  refine tk 1 (oi := ⟨_, _, _, _, _, _⟩) (v := ?_) rfl (by rfl) ?_ (by assumption) ?_; rotate_left; (focus (intro w hSw; (try dsimp only at hSw); go_simp; with_reducible rfl)); simp only [Act.put, tA, tB, tC]
                  refine wpAnyH_ready (rs := [2]) (by kernel_rfl) (by simp) ?_
                  refine AllReadyH.cons (o := ⟨_, _, _, _, _, _⟩) rfl (fun K hK => ?_) (AllReadyH.nil)
                  go_simp
                  refine (rsec_any p0 p1 ra rn rc sa sn sc F T F' T' 1 (k : Int) _ (hP.below Td.bl)).mono ?_
                  rw [HS.out]
                  rintro e w2 ⟨rfl, b2⟩
                  have T2 := Td.below b2
                  refine hK.out _ _ ⟨blk_cell T2.P 0, blk_cell T2.P 1, blk_cell T2.P 2, blk_cell T2.P 3, blk_cell T2.A 3, blk_cell T2.B 3⟩ (fun hHeld => ?_)
                  clear hK K
                  refine tk 3 (oi := ⟨_, _, _, _, _, _⟩) (v := ?_) rfl (by rfl) ?_ (by assumption) ?_; rotate_left; (focus (intro w hSw; (try dsimp only at hSw); go_simp; with_reducible rfl)); simp only [Act.put, tA, tB, tC]
                  refine tk 4 (oi := ⟨_, _, _, _, _, _⟩) (v := ?_) rfl (by rfl) ?_ (by assumption) ?_; rotate_left; (focus (intro w hSw; (try dsimp only at hSw); go_simp; with_reducible rfl)); simp only [Act.put, tA, tB, tC]
                  refine tk 5 (oi := ⟨_, _, _, _, _, _⟩) (v := ?_) rfl (by rfl) ?_ (by assumption) ?_; rotate_left; (focus (intro w hSw; (try dsimp only at hSw); go_simp; with_reducible rfl)); simp only [Act.put, tA, tB, tC]
                  refine tk 6 (oi := ⟨_, _, _, _, _, _⟩) (v := ?_) rfl (by rfl) ?_ (by assumption) ?_; rotate_left; (focus (intro w hSw; (try dsimp only at hSw); go_simp; with_reducible rfl)); simp only [Act.put, tA, tB, tC]
                  refine tk 7 (oi := ⟨_, _, _, _, _, _⟩) (v := ?_) rfl (by rfl) ?_ (by assumption) ?_; rotate_left; (focus (intro w hSw; (try dsimp only at hSw); go_simp; with_reducible rfl)); simp only [Act.put, tA, tB, tC]
                  refine tk 8 (oi := ⟨_, _, _, _, _, _⟩) (v := ?_) rfl (by rfl) ?_ (by assumption) ?_; rotate_left; (focus (intro w hSw; (try dsimp only at hSw); go_simp; with_reducible rfl)); simp only [Act.put, tA, tB, tC]
                  refine tk 9 (oi := ⟨_, _, _, _, _, _⟩) (v := ?_) rfl (by rfl) ?_ (by assumption) ?_; rotate_left; (focus (intro w hSw; (try dsimp only at hSw); go_simp; with_reducible rfl)); simp only [Act.put, tA, tB, tC]
                  refine tk 10 (oi := ⟨_, _, _, _, _, _⟩) (v := ?_) rfl (by rfl) ?_ (by assumption) ?_; rotate_left; (focus (intro w hSw; (try dsimp only at hSw); go_simp; with_reducible rfl)); simp only [Act.put, tA, tB, tC]
                  refine tk 11 (oi := ⟨_, _, _, _, _, _⟩) (v := ?_) rfl (by rfl) ?_ (by assumption) ?_; rotate_left; (focus (intro w hSw; (try dsimp only at hSw); go_simp; with_reducible rfl)); simp only [Act.put, tA, tB, tC]
                  refine tk 12 (oi := ⟨_, _, _, _, _, _⟩) (v := ?_) rfl (by rfl) ?_ (by assumption) ?_; rotate_left; (focus (intro w hSw; (try dsimp only at hSw); go_simp; with_reducible rfl)); simp only [Act.put, tA, tB, tC]
                  refine tk 13 (oi := ⟨_, _, _, _, _, _⟩) (v := ?_) rfl (by rfl) ?_ (by assumption) ?_; rotate_left; (focus (intro w hSw; (try dsimp only at hSw); go_simp; with_reducible rfl)); simp only [Act.put, tA, tB, tC]
                  refine tk 14 (oi := ⟨_, _, _, _, _, _⟩) (v := ?_) rfl (by rfl) ?_ (by assumption) ?_; rotate_left; (focus (intro w hSw; (try dsimp only at hSw); go_simp; with_reducible rfl)); simp only [Act.put, tA, tB, tC]
                  refine wpAnyH_done (by kernel_rfl) (NoPanic.normal ?_) _
                  go_wp2_with fail
                  go_ret
                  exact ⟨ret_bool (by rw [HZ.out, ralkB, HSZ.out, HEQ.out, HPD.out, show secAll (fun i => secB p0 p1 rn sn F T F' T' 1 (i : Int)) ma mb ma.size = false from (all_succ (p := fun i => secB p0 p1 rn sn F T F' T' 1 (i : Int) || decide (bt ma i = bt mb i)) hlt ht.out).2 (by rw [HS.out]; exact HE.out)]; simp), T2.bl⟩
              · have HS := hidI hs; clear hs
                have HE : True := trivial
                clear hx0 hy0
                go_upto_region 14 with fail
                refine wp_region_noPanic ?_
                refine wp_region_held_drew (S := (fun w' => w'.cell? ⟨w.heap.size, 0, none⟩ = some (.bool p0) ∧ w'.cell? ⟨w.heap.size, 1, none⟩ = some (.bool p1) ∧ w'.cell? ⟨w.heap.size, 2, none⟩ = some (.slice ra rn rc) ∧ w'.cell? ⟨w.heap.size, 3, none⟩ = some (.slice sa sn sc) ∧ w'.cell? ⟨w.heap.size + 1, 3, none⟩ = some (.string ma) ∧ w'.cell? ⟨w.heap.size + 1 + 1, 3, none⟩ = some (.string mb))) (by kernel_rfl) ⟨blk_cell Tr.P 0, blk_cell Tr.P 1, blk_cell Tr.P 2, blk_cell Tr.P 3, blk_cell Tr.A 3, blk_cell Tr.B 3⟩ (fun hHeld => ?_)
                refine tk 0 (oi := ⟨_, _, _, _, _, _⟩) (v := ?_) rfl (by rfl) ?_ (by assumption) ?_; rotate_left; (focus (intro w hSw; (try dsimp only at hSw); go_simp; with_reducible rfl)); simp only [Act.put, tA, tB, tC]
                refine tk 1 (oi := ⟨_, _, _, _, _, _⟩) (v := ?_) rfl (by rfl) ?_ (by assumption) ?_; rotate_left; (focus (intro w hSw; (try dsimp only at hSw); go_simp; with_reducible rfl)); simp only [Act.put, tA, tB, tC]
                refine wpAnyH_ready (rs := [2]) (by kernel_rfl) (by simp) ?_
                refine AllReadyH.cons (o := ⟨_, _, _, _, _, _⟩) rfl (fun K hK => ?_) (AllReadyH.nil)
                go_simp
                refine (rsec_any p0 p1 ra rn rc sa sn sc F T F' T' 1 (k : Int) _ (hP.below Td.bl)).mono ?_
                rw [HS.out]
                rintro e w2 ⟨rfl, b2⟩
                have T2 := Td.below b2
                refine hK.out _ _ ⟨blk_cell T2.P 0, blk_cell T2.P 1, blk_cell T2.P 2, blk_cell T2.P 3, blk_cell T2.A 3, blk_cell T2.B 3⟩ (fun hHeld => ?_)
                clear hK K
                refine tk 3 (oi := ⟨_, _, _, _, _, _⟩) (v := ?_) rfl (by rfl) ?_ (by assumption) ?_; rotate_left; (focus (intro w hSw; (try dsimp only at hSw); go_simp; with_reducible rfl)); simp only [Act.put, tA, tB, tC]
                refine tk 4 (oi := ⟨_, _, _, _, _, _⟩) (v := ?_) rfl (by rfl) ?_ (by assumption) ?_; rotate_left; (focus (intro w hSw; (try dsimp only at hSw); go_simp; with_reducible rfl)); simp only [Act.put, tA, tB, tC]
                refine tn 5 (oi := ⟨_, _, _, _, _, _⟩) rfl (by rfl) (by assumption) ?_; simp only [Act.put, tA, tB, tC]
                refine tn 6 (oi := ⟨_, _, _, _, _, _⟩) rfl (by rfl) (by assumption) ?_; simp only [Act.put, tA, tB, tC]
                refine tn 7 (oi := ⟨_, _, _, _, _, _⟩) rfl (by rfl) (by assumption) ?_; simp only [Act.put, tA, tB, tC]
                refine tn 8 (oi := ⟨_, _, _, _, _, _⟩) rfl (by rfl) (by assumption) ?_; simp only [Act.put, tA, tB, tC]
                refine tn 9 (oi := ⟨_, _, _, _, _, _⟩) rfl (by rfl) (by assumption) ?_; simp only [Act.put, tA, tB, tC]
                refine tn 10 (oi := ⟨_, _, _, _, _, _⟩) rfl (by rfl) (by assumption) ?_; simp only [Act.put, tA, tB, tC]
                refine tn 11 (oi := ⟨_, _, _, _, _, _⟩) rfl (by rfl) (by assumption) ?_; simp only [Act.put, tA, tB, tC]
                refine tn 12 (oi := ⟨_, _, _, _, _, _⟩) rfl (by rfl) (by assumption) ?_; simp only [Act.put, tA, tB, tC]
                refine tn 13 (oi := ⟨_, _, _, _, _, _⟩) rfl (by rfl) (by assumption) ?_; simp only [Act.put, tA, tB, tC]
                refine tk 14 (oi := ⟨_, _, _, _, _, _⟩) (v := ?_) rfl (by rfl) ?_ (by assumption) ?_; rotate_left; (focus (intro w hSw; (try dsimp only at hSw); go_simp; with_reducible rfl)); simp only [Act.put, tA, tB, tC]
                refine wpAnyH_done (by kernel_rfl) (NoPanic.normal ?_) _
                go_wp2_with fail
                go_roundw
                case rel => exact ⟨k + 1, by omega, by simp, (all_succ (p := fun i => secB p0 p1 rn sn F T F' T' 1 (i : Int) || decide (bt ma i = bt mb i)) hlt ht.out).1 (by rw [HS.out]; first | rfl | exact HE.out), T2⟩
                case measure => simp [intOf]; omega
            · obtain rfl : k = ma.size := by omega
              have HT3 := ht
              obtain ⟨wq, rfl⟩ : ∃ wq, wq = wr := ⟨_, rfl⟩
              clear ht hlt hk Td
              go_wp2_with fail
              go_loopw [10] (fun i wr => ∃ k : Nat, k ≤ va.size ∧ i = .int .i64 k ∧ secAll (fun i => secB p0 p1 rn sn F T F' T' 2 (i : Int)) va vb k = true ∧ Tri w wr p0 p1 ra rn rc sa sn sc pa aa na ca va ma pb ab nb cb vb mb) (fun i _ => va.size - (intOf i).toNat)
              case atStart => exact ⟨0, Nat.zero_le _, rfl, rfl, by assumption⟩
              case round =>
                obtain ⟨k, hk, rfl, ht0, Tr⟩ := hrel
                have ht := hidI ht0; clear ht0
                have Td := Tr.below (Below.refl wr.heap.size wr).drew
                have c0 : wr.cell? ⟨w.heap.size, 0, none⟩ = some (.bool p0) := blk_cell Tr.P 0
                have c1 : wr.cell? ⟨w.heap.size, 1, none⟩ = some (.bool p1) := blk_cell Tr.P 1
                have c2 : wr.cell? ⟨w.heap.size, 2, none⟩ = some (.slice ra rn rc) := blk_cell Tr.P 2
                have c3 : wr.cell? ⟨w.heap.size, 3, none⟩ = some (.slice sa sn sc) := blk_cell Tr.P 3
                have d0 : wr.cell? ⟨w.heap.size + 1, 0, none⟩ = some (.string pa) := blk_cell Tr.A 0
                have d1 : wr.cell? ⟨w.heap.size + 1, 1, none⟩ = some (.slice aa na ca) := blk_cell Tr.A 1
                have d2 : wr.cell? ⟨w.heap.size + 1, 2, none⟩ = some (.string va) := blk_cell Tr.A 2
                have d3 : wr.cell? ⟨w.heap.size + 1, 3, none⟩ = some (.string ma) := blk_cell Tr.A 3
                have u0 : wr.cell? ⟨w.heap.size + 1 + 1, 0, none⟩ = some (.string pb) := blk_cell Tr.B 0
                have u1 : wr.cell? ⟨w.heap.size + 1 + 1, 1, none⟩ = some (.slice ab nb cb) := blk_cell Tr.B 1
                have u2 : wr.cell? ⟨w.heap.size + 1 + 1, 2, none⟩ = some (.string vb) := blk_cell Tr.B 2
                have u3 : wr.cell? ⟨w.heap.size + 1 + 1, 3, none⟩ = some (.string mb) := blk_cell Tr.B 3
                by_cases hlt : k < va.size
                · have hlt' : (k : Int) < va.size := by omega
                  have hlty : k < vb.size := by have := HS2.out; have := HS3.out; omega
                  have hlty' : (k : Int) < vb.size := by omega
                  have hk0 : (0 : Int) ≤ (k : Int) := by omega
                  obtain ⟨x0, hx0⟩ : ∃ x0, x0 = bt va k := ⟨_, rfl⟩
                  obtain ⟨y0, hy0⟩ : ∃ y0, y0 = bt vb k := ⟨_, rfl⟩
                  have x1 : ((va[k]'hlt).toNat : Int) = x0 := (bt_eq va k hlt).trans hx0.symm
                  have y1 : ((vb[k]'hlty).toNat : Int) = y0 := (bt_eq vb k hlty).trans hy0.symm
                  cases hs : secB p0 p1 rn sn F T F' T' 2 (k : Int)
                  · have HS := hidI hs; clear hs
                    by_cases hxy : x0 = y0
                    · have HE : Hid ((false || decide (bt va k = bt vb k)) = true) := by show _ = _; rw [← hx0, ← hy0]; simpa using hxy
                      clear hx0 hy0
                      subst hxy
                      go_upto_region 19 with fail
                      refine wp_region_noPanic ?_
                      refine wp_region_held_drew (S := (fun w' => w'.cell? ⟨w.heap.size, 0, none⟩ = some (.bool p0) ∧ w'.cell? ⟨w.heap.size, 1, none⟩ = some (.bool p1) ∧ w'.cell? ⟨w.heap.size, 2, none⟩ = some (.slice ra rn rc) ∧ w'.cell? ⟨w.heap.size, 3, none⟩ = some (.slice sa sn sc) ∧ w'.cell? ⟨w.heap.size + 1, 2, none⟩ = some (.string va) ∧ w'.cell? ⟨w.heap.size + 1 + 1, 2, none⟩ = some (.string vb))) (by kernel_rfl) ⟨blk_cell Tr.P 0, blk_cell Tr.P 1, blk_cell Tr.P 2, blk_cell Tr.P 3, blk_cell Tr.A 2, blk_cell Tr.B 2⟩ (fun hHeld => ?_)
                      refine tk 0 (oi := ⟨_, _, _, _, _, _⟩) (v := ?_) rfl (by rfl) ?_ (by assumption) ?_; rotate_left; (focus (intro w hSw; (try dsimp only at hSw); go_simp; with_reducible rfl)); simp only [Act.put, tA, tB, tC]
                      refine tk 1 (oi := ⟨_, _, _, _, _, _⟩) (v := ?_) rfl (by rfl) ?_ (by assumption) ?_; rotate_left; (focus (intro w hSw; (try dsimp only at hSw); go_simp; with_reducible rfl)); simp only [Act.put, tA, tB, tC]
                      refine wpAnyH_ready (rs := [2]) (by kernel_rfl) (by simp) ?_
                      refine AllReadyH.cons (o := ⟨_, _, _, _, _, _⟩) rfl (fun K hK => ?_) (AllReadyH.nil)
                      go_simp
                      refine (rsec_any p0 p1 ra rn rc sa sn sc F T F' T' 2 (k : Int) _ (hP.below Td.bl)).mono ?_
                      rw [HS.out]
                      rintro e w2 ⟨rfl, b2⟩
                      have T2 := Td.below b2
                      refine hK.out _ _ ⟨blk_cell T2.P 0, blk_cell T2.P 1, blk_cell T2.P 2, blk_cell T2.P 3, blk_cell T2.A 2, blk_cell T2.B 2⟩ (fun hHeld => ?_)
                      clear hK K
                      refine tk 3 (oi := ⟨_, _, _, _, _, _⟩) (v := ?_) rfl (by rfl) ?_ (by assumption) ?_; rotate_left; (focus (intro w hSw; (try dsimp only at hSw); go_simp; with_reducible rfl)); simp only [Act.put, tA, tB, tC]
                      refine tk 4 (oi := ⟨_, _, _, _, _, _⟩) (v := ?_) rfl (by rfl) ?_ (by assumption) ?_; rotate_left; (focus (intro w hSw; (try dsimp only at hSw); go_simp; with_reducible rfl)); simp only [Act.put, tA, tB, tC]
                      refine tk 5 (oi := ⟨_, _, _, _, _, _⟩) (v := ?_) rfl (by rfl) ?_ (by assumption) ?_; rotate_left; (focus (intro w hSw; (try dsimp only at hSw); go_simp; with_reducible rfl)); simp only [Act.put, tA, tB, tC]
                      refine tk 6 (oi := ⟨_, _, _, _, _, _⟩) (v := ?_) rfl (by rfl) ?_ (by assumption) ?_; rotate_left; (focus (intro w hSw; (try dsimp only at hSw); go_simp; with_reducible rfl)); simp only [Act.put, tA, tB, tC]
                      refine tk 7 (oi := ⟨_, _, _, _, _, _⟩) (v := ?_) rfl (by rfl) ?_ (by assumption) ?_; rotate_left; (focus (intro w hSw; (try dsimp only at hSw); go_simp; with_reducible rfl)); simp only [Act.put, tA, tB, tC]
                      refine tk 8 (oi := ⟨_, _, _, _, _, _⟩) (v := ?_) rfl (by rfl) ?_ (by assumption) ?_; rotate_left; (focus (intro w hSw; (try dsimp only at hSw); go_simp; with_reducible rfl)); simp only [Act.put, tA, tB, tC]
                      refine tk 9 (oi := ⟨_, _, _, _, _, _⟩) (v := ?_) rfl (by rfl) ?_ (by assumption) ?_; rotate_left; (focus (intro w hSw; (try dsimp only at hSw); go_simp; with_reducible rfl)); simp only [Act.put, tA, tB, tC]
                      refine tk 10 (oi := ⟨_, _, _, _, _, _⟩) (v := ?_) rfl (by rfl) ?_ (by assumption) ?_; rotate_left; (focus (intro w hSw; (try dsimp only at hSw); go_simp; with_reducible rfl)); simp only [Act.put, tA, tB, tC]
                      refine tk 11 (oi := ⟨_, _, _, _, _, _⟩) (v := ?_) rfl (by rfl) ?_ (by assumption) ?_; rotate_left; (focus (intro w hSw; (try dsimp only at hSw); go_simp; with_reducible rfl)); simp only [Act.put, tA, tB, tC]
                      refine tk 12 (oi := ⟨_, _, _, _, _, _⟩) (v := ?_) rfl (by rfl) ?_ (by assumption) ?_; rotate_left; (focus (intro w hSw; (try dsimp only at hSw); go_simp; with_reducible rfl)); simp only [Act.put, tA, tB, tC]
                      refine tk 13 (oi := ⟨_, _, _, _, _, _⟩) (v := ?_) rfl (by rfl) ?_ (by assumption) ?_; rotate_left; (focus (intro w hSw; (try dsimp only at hSw); go_simp; with_reducible rfl)); simp only [Act.put, tA, tB, tC]
                      refine tk 14 (oi := ⟨_, _, _, _, _, _⟩) (v := ?_) rfl (by rfl) ?_ (by assumption) ?_; rotate_left; (focus (intro w hSw; (try dsimp only at hSw); go_simp; with_reducible rfl)); simp only [Act.put, tA, tB, tC]
                      refine wpAnyH_done (by kernel_rfl) (NoPanic.normal ?_) _
                      go_wp2_with fail
                      go_roundw
                      case rel => exact ⟨k + 1, by omega, by simp, (all_succ (p := fun i => secB p0 p1 rn sn F T F' T' 2 (i : Int) || decide (bt va i = bt vb i)) hlt ht.out).1 (by rw [HS.out]; first | rfl | exact HE.out), T2⟩
                      case measure => simp [intOf]; omega
                    · have HE : Hid ((false || decide (bt va k = bt vb k)) = false) := by show _ = _; rw [← hx0, ← hy0]; simpa using hxy
                      have hne : (x0 != y0) = true := by simpa using hxy
                      clear hx0 hy0
                      go_upto_region 19 with fail
                      refine wp_region_noPanic ?_
                      refine wp_region_held_drew (S := (fun w' => w'.cell? ⟨w.heap.size, 0, none⟩ = some (.bool p0) ∧ w'.cell? ⟨w.heap.size, 1, none⟩ = some (.bool p1) ∧ w'.cell? ⟨w.heap.size, 2, none⟩ = some (.slice ra rn rc) ∧ w'.cell? ⟨w.heap.size, 3, none⟩ = some (.slice sa sn sc) ∧ w'.cell? ⟨w.heap.size + 1, 2, none⟩ = some (.string va) ∧ w'.cell? ⟨w.heap.size + 1 + 1, 2, none⟩ = some (.string vb))) (by kernel_rfl) ⟨blk_cell Tr.P 0, blk_cell Tr.P 1, blk_cell Tr.P 2, blk_cell Tr.P 3, blk_cell Tr.A 2, blk_cell Tr.B 2⟩ (fun hHeld => ?_)
                      refine tk 0 (oi := ⟨_, _, _, _, _, _⟩) (v := ?_) rfl (by rfl) ?_ (by assumption) ?_; rotate_left; (focus (intro w hSw; (try dsimp only at hSw); go_simp; with_reducible rfl)); simp only [Act.put, tA, tB, tC]
                      refine tk 1 (oi := ⟨_, _, _, _, _, _⟩) (v := ?_) rfl (by rfl) ?_ (by assumption) ?_; rotate_left; (focus (intro w hSw; (try dsimp only at hSw); go_simp; with_reducible rfl)); simp only [Act.put, tA, tB, tC]
                      refine wpAnyH_ready (rs := [2]) (by kernel_rfl) (by simp) ?_
                      refine AllReadyH.cons (o := ⟨_, _, _, _, _, _⟩) rfl (fun K hK => ?_) (AllReadyH.nil)
                      go_simp
                      refine (rsec_any p0 p1 ra rn rc sa sn sc F T F' T' 2 (k : Int) _ (hP.below Td.bl)).mono ?_
                      rw [HS.out]
                      rintro e w2 ⟨rfl, b2⟩
                      have T2 := Td.below b2
                      refine hK.out _ _ ⟨blk_cell T2.P 0, blk_cell T2.P 1, blk_cell T2.P 2, blk_cell T2.P 3, blk_cell T2.A 2, blk_cell T2.B 2⟩ (fun hHeld => ?_)
                      clear hK K
                      refine tk 3 (oi := ⟨_, _, _, _, _, _⟩) (v := ?_) rfl (by rfl) ?_ (by assumption) ?_; rotate_left; (focus (intro w hSw; (try dsimp only at hSw); go_simp; with_reducible rfl)); simp only [Act.put, tA, tB, tC]
                      refine tk 4 (oi := ⟨_, _, _, _, _, _⟩) (v := ?_) rfl (by rfl) ?_ (by assumption) ?_; rotate_left; (focus (intro w hSw; (try dsimp only at hSw); go_simp; with_reducible rfl)); simp only [Act.put, tA, tB, tC]
                      refine tk 5 (oi := ⟨_, _, _, _, _, _⟩) (v := ?_) rfl (by rfl) ?_ (by assumption) ?_; rotate_left; (focus (intro w hSw; (try dsimp only at hSw); go_simp; with_reducible rfl)); simp only [Act.put, tA, tB, tC]
                      refine tk 6 (oi := ⟨_, _, _, _, _, _⟩) (v := ?_) rfl (by rfl) ?_ (by assumption) ?_; rotate_left; (focus (intro w hSw; (try dsimp only at hSw); go_simp; with_reducible rfl)); simp only [Act.put, tA, tB, tC]
                      refine tk 7 (oi := ⟨_, _, _, _, _, _⟩) (v := ?_) rfl (by rfl) ?_ (by assumption) ?_; rotate_left; (focus (intro w hSw; (try dsimp only at hSw); go_simp; with_reducible rfl)); simp only [Act.put, tA, tB, tC]
                      refine tk 8 (oi := ⟨_, _, _, _, _, _⟩) (v := ?_) rfl (by rfl) ?_ (by assumption) ?_; rotate_left; (focus (intro w hSw; (try dsimp only at hSw); go_simp; with_reducible rfl)); simp only [Act.put, tA, tB, tC]
                      refine tk 9 (oi := ⟨_, _, _, _, _, _⟩) (v := ?_) rfl (by rfl) ?_ (by assumption) ?_; rotate_left; (focus (intro w hSw; (try dsimp only at hSw); go_simp; with_reducible rfl)); simp only [Act.put, tA, tB, tC]
                      refine tk 10 (oi := ⟨_, _, _, _, _, _⟩) (v := ?_) rfl (by rfl) ?_ (by assumption) ?_; rotate_left; (focus (intro w hSw; (try dsimp only at hSw); go_simp; with_reducible rfl)); simp only [Act.put, tA, tB, tC]
                      refine tk 11 (oi := ⟨_, _, _, _, _, _⟩) (v := ?_) rfl (by rfl) ?_ (by assumption) ?_; rotate_left; (focus (intro w hSw; (try dsimp only at hSw); go_simp; with_reducible rfl)); simp only [Act.put, tA, tB, tC]
                      refine tk 12 (oi := ⟨_, _, _, _, _, _⟩) (v := ?_) rfl (by rfl) ?_ (by assumption) ?_; rotate_left; (focus (intro w hSw; (try dsimp only at hSw); go_simp; with_reducible rfl)); simp only [Act.put, tA, tB, tC]
                      refine tk 13 (oi := ⟨_, _, _, _, _, _⟩) (v := ?_) rfl (by rfl) ?_ (by assumption) ?_; rotate_left; (focus (intro w hSw; (try dsimp only at hSw); go_simp; with_reducible rfl)); simp only [Act.put, tA, tB, tC]
                      refine tk 14 (oi := ⟨_, _, _, _, _, _⟩) (v := ?_) rfl (by rfl) ?_ (by assumption) ?_; rotate_left; (focus (intro w hSw; (try dsimp only at hSw); go_simp; with_reducible rfl)); simp only [Act.put, tA, tB, tC]
                      refine wpAnyH_done (by kernel_rfl) (NoPanic.normal ?_) _
                      go_wp2_with fail
                      go_ret
                      exact ⟨ret_bool (by rw [HZ.out, ralkB, HSZ.out, HEQ.out, HPD.out, HT3.out, show secAll (fun i => secB p0 p1 rn sn F T F' T' 2 (i : Int)) va vb va.size = false from (all_succ (p := fun i => secB p0 p1 rn sn F T F' T' 2 (i : Int) || decide (bt va i = bt vb i)) hlt ht.out).2 (by rw [HS.out]; exact HE.out)]; simp), T2.bl⟩
                  · have HS := hidI hs; clear hs
                    have HE : True := trivial
                    clear hx0 hy0
                    go_upto_region 19 with fail
                    refine wp_region_noPanic ?_
                    refine wp_region_held_drew (S := (fun w' => w'.cell? ⟨w.heap.size, 0, none⟩ = some (.bool p0) ∧ w'.cell? ⟨w.heap.size, 1, none⟩ = some (.bool p1) ∧ w'.cell? ⟨w.heap.size, 2, none⟩ = some (.slice ra rn rc) ∧ w'.cell? ⟨w.heap.size, 3, none⟩ = some (.slice sa sn sc) ∧ w'.cell? ⟨w.heap.size + 1, 2, none⟩ = some (.string va) ∧ w'.cell? ⟨w.heap.size + 1 + 1, 2, none⟩ = some (.string vb))) (by kernel_rfl) ⟨blk_cell Tr.P 0, blk_cell Tr.P 1, blk_cell Tr.P 2, blk_cell Tr.P 3, blk_cell Tr.A 2, blk_cell Tr.B 2⟩ (fun hHeld => ?_)
                    refine tk 0 (oi := ⟨_, _, _, _, _, _⟩) (v := ?_) rfl (by rfl) ?_ (by assumption) ?_; rotate_left; (focus (intro w hSw; (try dsimp only at hSw); go_simp; with_reducible rfl)); simp only [Act.put, tA, tB, tC]
                    refine tk 1 (oi := ⟨_, _, _, _, _, _⟩) (v := ?_) rfl (by rfl) ?_ (by assumption) ?_; rotate_left; (focus (intro w hSw; (try dsimp only at hSw); go_simp; with_reducible rfl)); simp only [Act.put, tA, tB, tC]
                    refine wpAnyH_ready (rs := [2]) (by kernel_rfl) (by simp) ?_
                    refine AllReadyH.cons (o := ⟨_, _, _, _, _, _⟩) rfl (fun K hK => ?_) (AllReadyH.nil)
                    go_simp
                    refine (rsec_any p0 p1 ra rn rc sa sn sc F T F' T' 2 (k : Int) _ (hP.below Td.bl)).mono ?_
                    rw [HS.out]
                    rintro e w2 ⟨rfl, b2⟩
                    have T2 := Td.below b2
                    refine hK.out _ _ ⟨blk_cell T2.P 0, blk_cell T2.P 1, blk_cell T2.P 2, blk_cell T2.P 3, blk_cell T2.A 2, blk_cell T2.B 2⟩ (fun hHeld => ?_)
                    clear hK K
                    refine tk 3 (oi := ⟨_, _, _, _, _, _⟩) (v := ?_) rfl (by rfl) ?_ (by assumption) ?_; rotate_left; (focus (intro w hSw; (try dsimp only at hSw); go_simp; with_reducible rfl)); simp only [Act.put, tA, tB, tC]
                    refine tk 4 (oi := ⟨_, _, _, _, _, _⟩) (v := ?_) rfl (by rfl) ?_ (by assumption) ?_; rotate_left; (focus (intro w hSw; (try dsimp only at hSw); go_simp; with_reducible rfl)); simp only [Act.put, tA, tB, tC]
                    refine tn 5 (oi := ⟨_, _, _, _, _, _⟩) rfl (by rfl) (by assumption) ?_; simp only [Act.put, tA, tB, tC]
                    refine tn 6 (oi := ⟨_, _, _, _, _, _⟩) rfl (by rfl) (by assumption) ?_; simp only [Act.put, tA, tB, tC]
                    refine tn 7 (oi := ⟨_, _, _, _, _, _⟩) rfl (by rfl) (by assumption) ?_; simp only [Act.put, tA, tB, tC]
                    refine tn 8 (oi := ⟨_, _, _, _, _, _⟩) rfl (by rfl) (by assumption) ?_; simp only [Act.put, tA, tB, tC]
                    refine tn 9 (oi := ⟨_, _, _, _, _, _⟩) rfl (by rfl) (by assumption) ?_; simp only [Act.put, tA, tB, tC]
                    refine tn 10 (oi := ⟨_, _, _, _, _, _⟩) rfl (by rfl) (by assumption) ?_; simp only [Act.put, tA, tB, tC]
                    refine tn 11 (oi := ⟨_, _, _, _, _, _⟩) rfl (by rfl) (by assumption) ?_; simp only [Act.put, tA, tB, tC]
                    refine tn 12 (oi := ⟨_, _, _, _, _, _⟩) rfl (by rfl) (by assumption) ?_; simp only [Act.put, tA, tB, tC]
                    refine tn 13 (oi := ⟨_, _, _, _, _, _⟩) rfl (by rfl) (by assumption) ?_; simp only [Act.put, tA, tB, tC]
                    refine tk 14 (oi := ⟨_, _, _, _, _, _⟩) (v := ?_) rfl (by rfl) ?_ (by assumption) ?_; rotate_left; (focus (intro w hSw; (try dsimp only at hSw); go_simp; with_reducible rfl)); simp only [Act.put, tA, tB, tC]
                    refine wpAnyH_done (by kernel_rfl) (NoPanic.normal ?_) _
                    go_wp2_with fail
                    go_roundw
                    case rel => exact ⟨k + 1, by omega, by simp, (all_succ (p := fun i => secB p0 p1 rn sn F T F' T' 2 (i : Int) || decide (bt va i = bt vb i)) hlt ht.out).1 (by rw [HS.out]; first | rfl | exact HE.out), T2⟩
                    case measure => simp [intOf]; omega
                · obtain rfl : k = va.size := by omega
                  have HT2 := ht
                  obtain ⟨wq, rfl⟩ : ∃ wq, wq = wr := ⟨_, rfl⟩
                  clear ht hlt hk Td
                  go_wp2_with fail
                  go_ret
                  exact ⟨ret_bool (by rw [HZ.out, ralkB, HSZ.out, HEQ.out, HPD.out, HT3.out, HT2.out]; rfl), Tr.bl⟩
  · have e : z = false := by rw [HZ.out, ralkB, decide_eq_false hs]; simp
    have HE := hidI e; clear e
    go_enter Try.func25, Try.ntmps25
    go_wp2_with fail
    all_goals first
      | (exfalso; omega)
      | (go_ret; exact ⟨ret_bool HE.out.symm, T0.bl⟩)
end Go.Proofs.Ytkhjfcbloahjeaa
