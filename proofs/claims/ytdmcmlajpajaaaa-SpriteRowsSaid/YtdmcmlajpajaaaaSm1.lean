import Derived.Test.YtdmcmlajpajaaaaSr4
import Derived.WideMake
import Derived.MapKept
namespace Go.Proofs.Ytdmcmlajpajaaaa
open Go.RowKit Go.Sx
def insW (w : World) (r : Nat) (x : Value) : World := { w with heap := w.heap.setIfInBounds r (.map #[{ key := .bool true, val := x, born := 0 }] (0 + 1)) }
theorem ins_b (w : World) (r : Nat) (x : Value) (hb : w.heap[r]? = some (.map #[] 0)) :
    (Instr.mapUpdate 39 (.map (some r)) (.bool true) x).run Try.prog w = .ok () (insW w r x) := by
  have hm : Try.prog.underlying 39 = some (.map 4 35) := Try.underlying39
  have hk : Try.prog.underlying 4 = some .bool := Try.underlying4
  have hf : Instr.findNow .bool (.bool true) ([] : List MapEntry) 0 = some none := rfl
  have hc : (Instr.checkKey false 10000 4 (.bool true)).run Try.prog w = .ok () w := MapKept.run_checkKey (k := .bool true) hk (by simp [MapKept.IsKey]) false 9999
  simp [Instr.mapUpdate, run_underlying hm, MapKept.run_getObj_map hb, hc, MapKept.run_findKey hk hf, MapKept.run_setObj_map _ hb, Result.andThen, insW]
theorem look_b (w : World) (r c : Nat) (x : Int) (t : Bool) (hb : w.heap[r]? = some (.map #[{ key := .bool true, val := .int .u16 x, born := 0 }] c)) :
    (Instr.lookup 39 (.map (some r)) (.bool t) false).run Try.prog w = .ok (.int .u16 (if t then x else 0)) w := by
  have hm : Try.prog.underlying 39 = some (.map 4 35) := Try.underlying39
  have hk : Try.prog.underlying 4 = some .bool := Try.underlying4
  have hz : (zeroValue 35).run Try.prog w = .ok (.int .u16 0) w := by simp [go_sem]
  have hf : Instr.findNow .bool (.bool t) [({ key := .bool true, val := .int .u16 x, born := 0 } : MapEntry)] 0 = some (if t then some (0, .int .u16 x) else none) := by cases t <;> rfl
  have hc : (Instr.checkKey false 10000 4 (.bool t)).run Try.prog w = .ok () w := MapKept.run_checkKey (k := .bool t) hk (by simp [MapKept.IsKey]) false 9999
  cases t <;> simp [Instr.lookup, run_underlying hm, MapKept.run_getObj_map hb, hc, MapKept.run_findKey hk hf, Result.andThen, hz]
theorem cell_insW (w : World) (r : Nat) (x : Value) (a : Addr) (h : r ≠ a.block) : (insW w r x).cell? a = w.cell? a := by
  unfold insW World.cell?
  simp [h]
theorem heap_insW (w : World) (r : Nat) (x : Value) (h : r < w.heap.size) : (insW w r x).heap[r]? = some (.map #[{ key := .bool true, val := x, born := 0 }] 1) := by
  simp [insW, h]
theorem below_insW {w : World} (x : Value) : Below w.heap.size w (insW (w.drew.alloc (.map #[] 0)) w.heap.size x) := by
  have h0 : Below w.heap.size w (w.drew.alloc (.map #[] 0)) := ((Below.refl _ _).drew).alloc (by simp) _
  refine h0.trans ⟨rfl, rfl, rfl, ?_, fun b hb => ?_⟩
  · simp [insW]
  · simp only [insW]
    rw [Array.getElem?_setIfInBounds_ne (by omega)]
theorem below_insW' {w : World} (x : Value) : Below w.heap.size w (insW (w.alloc (.map #[] 0)).drew w.heap.size x) := by
  have h0 : Below w.heap.size w (w.alloc (.map #[] 0)).drew := ((Below.refl _ _).alloc (Nat.le_refl _) _).drew
  refine h0.trans ⟨rfl, rfl, rfl, ?_, fun b hb => ?_⟩
  · simp [insW]
  · simp only [insW]
    rw [Array.getElem?_setIfInBounds_ne (by omega)]
end Go.Proofs.Ytdmcmlajpajaaaa
