/-
  Equality of the document's frames. By an AI agent.
-/
import Derived.Test.YtkgieciamophkaaDoorOf03
import Derived.Laws.StructEq
namespace Go.Proofs.YtkgieciamophkaaDoor
open Go.RowKit
theorem rfv_eq (f : Fr) (w : World) : (binOp .eql 80 (rfv f) (rfv f)).run Tryd.prog w = .ok (.bool true) w := by
  unfold rfv
  go_simp
theorem rfv_neq (f : Fr) (w : World) : (binOp .neq 80 (rfv f) (rfv f)).run Tryd.prog w = .ok (.bool false) w := by
  unfold rfv
  go_simp
theorem rfv_guard (op : BinOp) (x y : Operand) (f g : Fr) (w : World) : (eqGuard op 80 x y (rfv f) (rfv g)).run Tryd.prog w = .ok () w := run_eqGuard_agg w op _ x y _ _ (by kernel_rfl)
end Go.Proofs.YtkgieciamophkaaDoor
