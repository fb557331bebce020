/-
  From what a call is handed to rows of Booleans. By an AI agent.
-/
import Derived.Test.YtabjihchcmjdmaaDoorGa10
import Derived.Test.YtabjihchcmjdmaaDoorGb10
import Derived.Deep.Grids
namespace Go.Proofs.YtabjihchcmjdmaaDoor
open Go.RowKit Go.ChangeShapes

/-- The slice v reads as these Booleans. -/
def RBL (w : World) (v : Value) (l : List Bool) : Prop :=
  l.length ≤ 9223372036854775807 ∧ ∃ A c, v = .slice A l.length c ∧ l.length ≤ c ∧ ∀ i (h : i < l.length), ∃ b off, A = some ⟨b, off, none⟩ ∧ w.cell? ⟨b, off + i, none⟩ = some (.bool l[i])
theorem bool_cells : Tryd.prog.cellsOf 4 = 1 := by kernel_rfl
theorem rbl_of_trod {H : Type} {enc : TypeId × Value → H} {w : World} {fuel : Nat} {a : Option Addr} {len cap : Nat} {x : DataW H × List MemPlace}
    (h : DataW.trod enc Tryd.prog w 0 (fun _ => true) true fuel 44 [.slice a len cap] = some x) : ∃ l, RBL w (.slice a len cap) l := by
  rcases Go.Deep.open_bools Tryd.underlying44 Tryd.underlying4 bool_cells h with ⟨hcs, _⟩ | ⟨a', len', cap', B, hcs, _, hl, hm, _, hx⟩
  · simp at hcs
    obtain ⟨rfl, rfl, rfl⟩ := hcs
    exact ⟨[], by simp, none, 0, rfl, by simp, fun i hi => by simp at hi⟩
  · simp at hcs
    obtain ⟨rfl, rfl, rfl⟩ := hcs
    refine ⟨(List.range len).map B, by simp only [maxLen] at hm; simp; omega, some a', cap, by simp, by simp; exact hl, fun i hi => ?_⟩
    have hi' : i < len := by simpa using hi
    obtain ⟨b, off, spot⟩ := a'
    have hspot : spot = none := by simpa [Addr.add] using World.cell?_spot (hx 0 (by omega))
    subst hspot
    exact ⟨b, off, rfl, by rw [← Go.WideShapes.add_plain]; simpa using hx i (by omega)⟩
end Go.Proofs.YtabjihchcmjdmaaDoor
