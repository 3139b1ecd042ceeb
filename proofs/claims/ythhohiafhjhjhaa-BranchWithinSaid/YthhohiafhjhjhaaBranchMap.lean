
/- A map literal of two entries from int to int, made and asked: the runs of branch.where's map. -/
import Derived.Test.YthhohiafhjhjhaaSpanW5
import Derived.MapKept
import Derived.Deep.RegionHeld3
import Derived.BigRegion
namespace Go.Proofs.Ythhohiafhjhjhaa
open Go.RowKit

theorem heap_put (w : World) (o o' : Obj) : ({ (w.alloc o) with heap := (w.alloc o).heap.setIfInBounds w.heap.size o' } : World) = w.alloc o' := by
  have e : (w.alloc o).heap = w.heap.push o := rfl
  unfold World.alloc
  congr 1
  simp [Array.setIfInBounds, Array.push]
def e5 : MapEntry := { key := .int .i64 5, val := .int .i64 3, born := 0 }
def e6 : MapEntry := { key := .int .i64 6, val := .int .i64 4, born := 1 }
theorem map_one (w : World) (r : Nat) (hr : r = w.heap.size) : (Instr.mapUpdate 54 (.map (some r)) (.int .i64 5) (.int .i64 3)).run Try.prog (w.alloc (.map #[] 0)) = .ok () (w.alloc (.map #[e5] 1)) := by
  subst hr
  have hb := (MapKept.heap_alloc w (.map #[] 0)).1
  have hk : MapKept.IsKey (.int .i64) (.int .i64 5) := by simp [MapKept.IsKey]
  have hf : Instr.findNow (.int .i64) (.int .i64 5) ([] : List MapEntry) 0 = some none := rfl
  simp [Instr.mapUpdate, run_underlying Try.underlying54, MapKept.run_getObj_map hb, MapKept.run_checkKey Try.underlying3 hk, MapKept.run_findKey Try.underlying3 hf, MapKept.run_setObj_map _ hb, Result.andThen]
  exact heap_put w _ _
theorem map_two (w : World) (r : Nat) (hr : r = w.heap.size) : (Instr.mapUpdate 54 (.map (some r)) (.int .i64 6) (.int .i64 4)).run Try.prog (w.alloc (.map #[e5] 1)) = .ok () (w.alloc (.map #[e5, e6] 2)) := by
  subst hr
  have hb := (MapKept.heap_alloc w (.map #[e5] 1)).1
  have hk : MapKept.IsKey (.int .i64) (.int .i64 6) := by simp [MapKept.IsKey]
  have hf : Instr.findNow (.int .i64) (.int .i64 6) [e5] 0 = some none := rfl
  simp [Instr.mapUpdate, run_underlying Try.underlying54, MapKept.run_getObj_map hb, MapKept.run_checkKey Try.underlying3 hk, MapKept.run_findKey Try.underlying3 hf, MapKept.run_setObj_map _ hb, Result.andThen]
  exact heap_put w _ _
def turnedV (k : Int) : Int := if k = 5 then 3 else if k = 6 then 4 else 0
theorem map_look (w : World) (r : Nat) (hr : r = w.heap.size) (k : Int) : (Instr.lookup 54 (.map (some r)) (.int .i64 k) false).run Try.prog (w.alloc (.map #[e5, e6] 2)) = .ok (.int .i64 (turnedV k)) (w.alloc (.map #[e5, e6] 2)) := by
  subst hr
  have hb := (MapKept.heap_alloc w (.map #[e5, e6] 2)).1
  have hk : MapKept.IsKey (.int .i64) (.int .i64 k) := by simp [MapKept.IsKey]
  have hz : ∀ w : World, (zeroValue 3).run Try.prog w = .ok (.int .i64 0) w := fun _ => by kernel_rfl
  by_cases h5 : k = 5
  · subst h5
    have hf : Instr.findNow (.int .i64) (.int .i64 5) [e5, e6] 0 = some (some (0, .int .i64 3)) := rfl
    simp [Instr.lookup, run_underlying Try.underlying54, MapKept.run_getObj_map hb, MapKept.run_checkKey Try.underlying3 hk, MapKept.run_findKey Try.underlying3 hf, Result.andThen, turnedV]
  · by_cases h6 : k = 6
    · subst h6
      have hf : Instr.findNow (.int .i64) (.int .i64 6) [e5, e6] 0 = some (some (1, .int .i64 4)) := rfl
      simp [Instr.lookup, run_underlying Try.underlying54, MapKept.run_getObj_map hb, MapKept.run_checkKey Try.underlying3 hk, MapKept.run_findKey Try.underlying3 hf, Result.andThen, turnedV]
    · have hf : Instr.findNow (.int .i64) (.int .i64 k) [e5, e6] 0 = some none := by
        have b5 : (k == 5) = false := by simp [h5]
        have b6 : (k == 6) = false := by simp [h6]
        simp [Instr.findNow, Instr.sameNow, e5, e6, b5, b6]
      simp [Instr.lookup, run_underlying Try.underlying54, MapKept.run_getObj_map hb, MapKept.run_checkKey Try.underlying3 hk, MapKept.run_findKey Try.underlying3 hf, Result.andThen, turnedV, h5, h6, hz]
end Go.Proofs.Ythhohiafhjhjhaa
