/-
  told and shown of law 01. By an AI agent.
-/
import Derived.Test.YtfcfpkhcpijkfaaDoorNum
import Derived.Test.YtfcfpkhcpijkfaaDoorCode
namespace Go.Proofs.YtfcfpkhcpijkfaaDoor
open Go.RowKit

theorem EC.old {w : World} {P : Nat → Prop} : ∀ {r v k}, EC w P r v k → EC w (fun j => P j ∧ j < w.heap.size) r v k
  | [], _, _, h => h
  | _ :: _, _, _, ⟨e, v', h1, h2, h3, h4, h5⟩ => ⟨e, v', h1, ⟨h2, World.block_lt_of_cell? w _ h3⟩, h3, h4, EC.old h5⟩
theorem WR.zero (w : World) (t : TypeId) (g : Nat) (hg : g = w.heap.size) : WR (w.alloc (.cells #[.slice none 0 0] t)) g none [] := by
  subst hg
  exact ⟨.slice none 0 0, by rw [World.cell?_alloc_at _ _ _ _ rfl]; rfl, by simp, OB.nil _ _, rfl, by simp⟩

end Go.Proofs.YtfcfpkhcpijkfaaDoor
