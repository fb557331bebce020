/-
  Comparisons of texts. By an AI agent.
-/
import Derived.Test.YtfcfpkhcpijkfaaDoorBy
import Derived.Test.YtfcfpkhcpijkfaaDoorProg
import Derived.Laws.StructEq
namespace Go.Proofs.YtfcfpkhcpijkfaaDoor
open Go.RowKit

theorem bs_list {a b : List UInt8} : (bs a).toList = (bs b).toList ↔ a = b := by
  rw [ByteArray.toList_eq, ByteArray.toList_eq, bs_toList, bs_toList]
/-- equality of texts, as the walk spells it -/
theorem str_beq (a b : List UInt8) : ((bs a).toList == (bs b).toList) = decide (a = b) := by
  by_cases h : a = b
  · subst h; simp
  · rw [decide_eq_false h, beq_eq_false_iff_ne]; exact fun h' => h (bs_list.1 h')
end Go.Proofs.YtfcfpkhcpijkfaaDoor
