import Derived.Test.YtdmcmlajpajaaaaSg3
namespace Go.Proofs.Ytdmcmlajpajaaaa
open Go.RowKit Go.Sx
theorem rowAt_take {w : World} {ao : Option Addr} {n m k : Nat} {C : Nat → Nat → Value} (h : RowAt w ao n k C) (hm : m ≤ n) : RowAt w ao m k C := fun i hi => h i (by omega)
set_option maxHeartbeats 800000 in
theorem dots_low (ao : Option Addr) (n cap : Nat) (U : Uns) (x : Int) (w : World) (hl : n ≤ 20) (hxr : -9223372036854775808 ≤ x) (hxr' : x ≤ 9223372036854775807) (hU : U.Ok n) (h : RowAt w ao n 7 U.C) :
    Calls Try.prog 7 #[.slice ao n cap, .int .i64 x] w fun e w' => e = .returned (.bool true) ∧ Below w.heap.size w w' := by
  go_enter Try.func7, Try.ntmps7
  go_wp2_with fail
  refine (Dot_any _ n _ U x _ (by omega) hxr hxr' hU h).mono ?_
  rintro e w1 ⟨rfl, hb1⟩
  have h1 := h.below hb1
  go_wp2_with fail
  refine (rDot_any _ n _ U x _ (by omega) hU h1).mono ?_
  rintro e w2 ⟨rfl, hb2⟩
  have h2 := h1.below hb2
  go_wp2_with fail
  refine (Any_any _ n _ U _ (by omega) h2).mono ?_
  rintro e w3 ⟨rfl, hb3⟩
  have h3 := h2.below hb3
  go_wp2_with fail
  refine (rAny_any _ n _ U _ (by omega) h3).mono ?_
  rintro e w4 ⟨rfl, hb4⟩
  go_wp2_with fail
  refine (awake_any _).mono ?_
  rintro e w5 ⟨rfl, hb5⟩
  go_wp2
  go_ret
  have a2 := hb1.trans (hb2.mono hb1.size)
  have a3 := a2.trans (hb3.mono a2.size)
  have a4 := a3.trans (hb4.mono a3.size)
  exact ⟨rfl, a4.trans (hb5.mono a4.size)⟩
set_option maxHeartbeats 800000 in
theorem dots_high (ao : Option Addr) (n cap : Nat) (U : Uns) (x : Int) (w : World) (hl : 20 < n) (hc : 20 ≤ cap) (hxr : -9223372036854775808 ≤ x) (hxr' : x ≤ 9223372036854775807) (hU : U.Ok n) (h : RowAt w ao n 7 U.C) :
    Calls Try.prog 7 #[.slice ao n cap, .int .i64 x] w fun e w' => e = .returned (.bool true) ∧ Below w.heap.size w w' := by
  have h0 := rowAt_take h (m := 20) (by omega)
  have hU' : U.Ok 20 := ⟨fun i hi => hU.X i (by omega), fun i hi => hU.lo i (by omega), fun i hi => hU.hi i (by omega), fun i hi => hU.ti i (by omega)⟩
  go_enter Try.func7, Try.ntmps7
  go_wp2_with fail
  refine (Dot_any _ 20 _ U x _ (by omega) hxr hxr' hU' h0).mono ?_
  rintro e w1 ⟨rfl, hb1⟩
  have h1 := h0.below hb1
  go_wp2_with fail
  refine (rDot_any _ 20 _ U x _ (by omega) hU' h1).mono ?_
  rintro e w2 ⟨rfl, hb2⟩
  have h2 := h1.below hb2
  go_wp2_with fail
  refine (Any_any _ 20 _ U _ (by omega) h2).mono ?_
  rintro e w3 ⟨rfl, hb3⟩
  have h3 := h2.below hb3
  go_wp2_with fail
  refine (rAny_any _ 20 _ U _ (by omega) h3).mono ?_
  rintro e w4 ⟨rfl, hb4⟩
  go_wp2_with fail
  refine (awake_any _).mono ?_
  rintro e w5 ⟨rfl, hb5⟩
  go_wp2
  go_ret
  have a2 := hb1.trans (hb2.mono hb1.size)
  have a3 := a2.trans (hb3.mono a2.size)
  have a4 := a3.trans (hb4.mono a3.size)
  exact ⟨rfl, a4.trans (hb5.mono a4.size)⟩
theorem dots_any (ao : Option Addr) (n cap : Nat) (U : Uns) (x : Int) (w : World) (hc : n ≤ cap) (hxr : -9223372036854775808 ≤ x) (hxr' : x ≤ 9223372036854775807) (hU : U.Ok n) (h : RowAt w ao n 7 U.C) :
    Calls Try.prog 7 #[.slice ao n cap, .int .i64 x] w fun e w' => e = .returned (.bool true) ∧ Below w.heap.size w w' := by
  by_cases hl : n ≤ 20
  · exact dots_low ao n cap U x w hl hxr hxr' hU h
  · exact dots_high ao n cap U x w (by omega) (by omega) hxr hxr' hU h
end Go.Proofs.Ytdmcmlajpajaaaa
