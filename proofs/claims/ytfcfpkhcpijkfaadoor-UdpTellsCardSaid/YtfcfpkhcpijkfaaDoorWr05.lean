/-
  Errors of layer 05: wrong, and the law's told. By an AI agent.
-/
import Derived.Test.YtfcfpkhcpijkfaaDoorRow
import Derived.Test.YtfcfpkhcpijkfaaDoorIp
namespace Go.Proofs.YtfcfpkhcpijkfaaDoor
open Go.RowKit

theorem wrong5_any (P : Nat → Prop) (r : List (List UInt8)) (k : Nat) (v : Value) (w : World) (h : EC w P r v k) :
    Calls Tryd.prog 52 #[v] w fun e w' => ∃ v', e = .returned v' ∧ EC w' (fun j => P j ∨ j = w.heap.size) (lay5 :: r) v' k ∧ Ex (fun _ => False) w w' := by
  have hb : (⟨#[105, 112, 118, 52]⟩ : ByteArray) = bs lay5 := rfl
  have H := Lib.hid h
  obtain ⟨ty, y, rfl⟩ := h.shape
  clear h
  go_enter Tryd.func52, Tryd.ntmps52
  go_wp2_with fail
  refine (wrap_any lay5 _ _ _).mono ?_
  rintro e w' ⟨rfl, rfl⟩
  go_wp2_with fail
  go_ret
  exact ⟨_, rfl, EC.wrap H.out (.inr rfl) (fun _ h => .inl h) _, (Ex.refl _ w).alloc _⟩
theorem wrong5_no (k : Nat) (w : World) :
    Calls Tryd.prog 52 #[.iface 44 (.int .i64 (k : Int))] w fun e w' => ∃ v', e = .returned v' ∧ EC w' (fun j => w.heap.size ≤ j) [lay5] v' k ∧ Ex (fun _ => False) w w' := by
  refine (wrong5_any (fun _ => False) [] k _ w rfl).mono ?_
  rintro e w' ⟨v, rfl, he, hx⟩
  exact ⟨v, rfl, EC.mono (fun j hj => by rcases hj with h | h; exact h.elim; omega) he, hx⟩
theorem told5_nil (w : World) : Calls Tryd.prog 26 #[.nilIface] w fun e w' => e = .returned (.string ⟨#[]⟩) ∧ w = w' := by
  go_enter Tryd.func26, Tryd.ntmps26
  go_wp2
  go_ret
  exact ⟨rfl, rfl⟩
theorem told5_any (P : Nat → Prop) (r : List (List UInt8)) (k : Nat) (v : Value) (w : World) (hec : EC w P r v k) (hk : k ≤ 13) (hl : (etx r k).length ≤ 1000) :
    Calls Tryd.prog 26 #[v] w fun e w' => e = .returned (.string (bs (etx r k))) ∧ Ex (fun _ => False) w w' := by
  obtain ⟨ty, y, f, rfl, g1, g2, g3⟩ := etext k hk r v w hec hl
  have G3 := Lib.hid g3
  clear g3 hec
  go_enter Tryd.func26, Tryd.ntmps26
  go_wp2_with fail
  refine (G3.out w (Ex.refl _ w)).mono ?_
  rintro e w' ⟨rfl, hx⟩
  have HX := Lib.hid hx
  clear hx
  go_wp2_with fail
  go_ret
  exact ⟨rfl, HX.out⟩
end Go.Proofs.YtfcfpkhcpijkfaaDoor
