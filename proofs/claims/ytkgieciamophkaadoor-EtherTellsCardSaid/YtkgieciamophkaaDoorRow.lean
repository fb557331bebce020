/-
  A block of cells that is known whole. By an AI agent.
-/
import Derived.Test.YtkgieciamophkaaDoorRead2
import Derived.Laws.CopyOwn
import Derived.Laws.ResultCell
import Derived.Laws.Rows
import Derived.Deep.Cut
import Derived.Deep.RegionHeld
import Derived.Deep.DeepCutAuto
import Derived.Deep.CutBlock
namespace Go.Proofs.YtkgieciamophkaaDoor
open Go.RowKit

theorem row_set {w : World} {g : Nat} {cs : Array Value} {t : TypeId} (h : w.heap[g]? = some (.cells cs t)) (k : Nat) (v : Value) : (w.setCell ⟨g, k, none⟩ v).heap[g]? = some (.cells (cs.setIfInBounds k v) t) := by
  rw [setCell_eq_setRow w g k cs t (0, 0) v h]
  exact setRow_heap w g cs _ t _ h
theorem row_cell {w : World} {g k : Nat} {cs : Array Value} {t : TypeId} {v : Value} (h : w.heap[g]? = some (.cells cs t)) (hk : cs[k]? = some v) : w.cell? ⟨g, k, none⟩ = some v := by
  simp [World.cell?, h, hk]
theorem row_frozen {w : World} {g : Nat} {cs : Array Value} {t : TypeId} (h : w.heap[g]? = some (.cells cs t)) (k : Nat) : w.frozen? ⟨g, k, none⟩ = false := by
  simp [World.frozen?, h]
theorem row_lt {w : World} {g : Nat} {o : Obj} (h : w.heap[g]? = some o) : g < w.heap.size := (Array.getElem?_eq_some_iff.1 h).1
end Go.Proofs.YtkgieciamophkaaDoor
