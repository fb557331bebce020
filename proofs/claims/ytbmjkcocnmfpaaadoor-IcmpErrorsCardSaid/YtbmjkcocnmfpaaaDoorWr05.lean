/-
  Errors of layer 05: wrong, and the law's told. By an AI agent.
-/
import Derived.Test.YtbmjkcocnmfpaaaDoorRow
import Derived.Test.YtbmjkcocnmfpaaaDoorIp
namespace Go.Proofs.YtbmjkcocnmfpaaaDoor
open Go.RowKit

theorem wrong5_any (P : Nat → Prop) (r : List (List UInt8)) (k : Nat) (v : Value) (w : World) (h : EC w P r v k) :
    Calls Tryd.prog 49 #[v] w fun e w' => ∃ v', e = .returned v' ∧ EC w' (fun j => P j ∨ j = w.heap.size) (lay5 :: r) v' k ∧ Ex (fun _ => False) w w' := by
  have hb : (⟨#[105, 112, 118, 52]⟩ : ByteArray) = bs lay5 := rfl
  have H := Lib.hid h
  obtain ⟨ty, y, rfl⟩ := h.shape
  clear h
  go_enter Tryd.func49, Tryd.ntmps49
  go_wp2_with fail
  refine (wrap_any lay5 _ _ _).mono ?_
  rintro e w' ⟨rfl, rfl⟩
  go_wp2_with fail
  go_ret
  exact ⟨_, rfl, EC.wrap H.out (.inr rfl) (fun _ h => .inl h) _, (Ex.refl _ w).alloc _⟩
theorem wrong5_no (k : Nat) (w : World) :
    Calls Tryd.prog 49 #[.iface 35 (.int .i64 (k : Int))] w fun e w' => ∃ v', e = .returned v' ∧ EC w' (fun j => w.heap.size ≤ j) [lay5] v' k ∧ Ex (fun _ => False) w w' := by
  refine (wrong5_any (fun _ => False) [] k _ w rfl).mono ?_
  rintro e w' ⟨v, rfl, he, hx⟩
  exact ⟨v, rfl, EC.mono (fun j hj => by rcases hj with h | h; exact h.elim; omega) he, hx⟩
end Go.Proofs.YtbmjkcocnmfpaaaDoor
