/-
  The contracts of udp's must and check: they panic with what is wrong. By an AI agent.
-/
import Derived.Test.YtfcfpkhcpijkfaaDoorWr06
import Derived.Test.YtfcfpkhcpijkfaaDoorRow2
import Derived.Defers
import Derived.Recover
namespace Go.Proofs.YtfcfpkhcpijkfaaDoor
open Go.RowKit

/-- a panic of udp's: what is wrong is v -/
def wpan (v : Value) : List PanicEntry := [{ v := .iface 104 (.agg #[v]), recovered := false }]

theorem mustb_ok (A : Option Addr) (n c : Nat) (w : World) : Calls Tryd.prog 37 #[.slice A n c, .nilIface] w fun e w' => e = .returned (.slice A n c) ∧ w = w' := by
  go_enter Tryd.func37, Tryd.ntmps37
  go_wp2_with fail
  go_ret
  exact ⟨rfl, rfl⟩
theorem mustb_no (P : Nat → Prop) (r : List (List UInt8)) (k : Nat) (v : Value) (A : Option Addr) (n c : Nat) (w : World) (h : EC w P r v k) :
    Calls Tryd.prog 37 #[.slice A n c, v] w fun e w' => ∃ v', e = .panicked (wpan v') ∧ EC w' (fun j => P j ∨ j = w.heap.size) (lay6 :: r) v' k ∧ Ex (fun _ => False) w w' := by
  have hb : (⟨#[117, 100, 112]⟩ : ByteArray) = bs lay6 := rfl
  have H := Lib.hid h
  obtain ⟨ty, y, rfl⟩ := h.shape
  clear h
  go_enter Tryd.func37, Tryd.ntmps37
  go_wp2_with fail
  refine (wrap_any lay6 _ _ _).mono ?_
  rintro e w' ⟨rfl, rfl⟩
  go_wp2_with fail
  exact ⟨rfl, _, rfl, EC.wrap H.out (.inr rfl) (fun _ h => .inl h) _, (Ex.refl _ w).alloc _⟩
theorem must16_ok (x : Int) (w : World) : Calls Tryd.prog 39 #[.int .u16 x, .nilIface] w fun e w' => e = .returned (.int .u16 x) ∧ w = w' := by
  go_enter Tryd.func39, Tryd.ntmps39
  go_wp2_with fail
  go_ret
  exact ⟨rfl, rfl⟩
theorem must16_no (P : Nat → Prop) (r : List (List UInt8)) (k : Nat) (v : Value) (x : Int) (w : World) (h : EC w P r v k) :
    Calls Tryd.prog 39 #[.int .u16 x, v] w fun e w' => ∃ v', e = .panicked (wpan v') ∧ EC w' (fun j => P j ∨ j = w.heap.size) (lay6 :: r) v' k ∧ Ex (fun _ => False) w w' := by
  have hb : (⟨#[117, 100, 112]⟩ : ByteArray) = bs lay6 := rfl
  have H := Lib.hid h
  obtain ⟨ty, y, rfl⟩ := h.shape
  clear h
  go_enter Tryd.func39, Tryd.ntmps39
  go_wp2_with fail
  refine (wrap_any lay6 _ _ _).mono ?_
  rintro e w' ⟨rfl, rfl⟩
  go_wp2_with fail
  exact ⟨rfl, _, rfl, EC.wrap H.out (.inr rfl) (fun _ h => .inl h) _, (Ex.refl _ w).alloc _⟩
theorem musti_ok (x : Int) (w : World) : Calls Tryd.prog 63 #[.int .i64 x, .nilIface] w fun e w' => e = .returned (.int .i64 x) ∧ w = w' := by
  go_enter Tryd.func63, Tryd.ntmps63
  go_wp2_with fail
  go_ret
  exact ⟨rfl, rfl⟩
theorem musti_no (P : Nat → Prop) (r : List (List UInt8)) (k : Nat) (v : Value) (x : Int) (w : World) (h : EC w P r v k) :
    Calls Tryd.prog 63 #[.int .i64 x, v] w fun e w' => ∃ v', e = .panicked (wpan v') ∧ EC w' (fun j => P j ∨ j = w.heap.size) (lay6 :: r) v' k ∧ Ex (fun _ => False) w w' := by
  have hb : (⟨#[117, 100, 112]⟩ : ByteArray) = bs lay6 := rfl
  have H := Lib.hid h
  obtain ⟨ty, y, rfl⟩ := h.shape
  clear h
  go_enter Tryd.func63, Tryd.ntmps63
  go_wp2_with fail
  refine (wrap_any lay6 _ _ _).mono ?_
  rintro e w' ⟨rfl, rfl⟩
  go_wp2_with fail
  exact ⟨rfl, _, rfl, EC.wrap H.out (.inr rfl) (fun _ h => .inl h) _, (Ex.refl _ w).alloc _⟩
theorem check_no (k : Nat) (w : World) : Calls Tryd.prog 41 #[.bool false, .int .i64 (k : Int)] w fun e w' => e = .returned (.tuple #[]) ∧ w = w' := by
  go_enter Tryd.func41, Tryd.ntmps41
  go_wp2_with fail
  go_end0
  exact ⟨rfl, rfl⟩
theorem check_yes (k : Nat) (w : World) : Calls Tryd.prog 41 #[.bool true, .int .i64 (k : Int)] w fun e w' => ∃ v', e = .panicked (wpan v') ∧ EC w' (fun j => w.heap.size ≤ j) [lay6] v' k ∧ Ex (fun _ => False) w w' := by
  go_enter Tryd.func41, Tryd.ntmps41
  go_wp2_with fail
  refine (musti_no (fun _ => False) [] k _ 0 w rfl).mono ?_
  rintro e w' ⟨v', rfl, he, hx⟩
  have HE := Lib.hid he
  have HX := Lib.hid hx
  clear he hx
  go_wp2_with fail
  exact ⟨rfl, _, rfl, EC.mono (fun j hj => by rcases hj with h | h; exact h.elim; omega) HE.out, HX.out⟩
end Go.Proofs.YtfcfpkhcpijkfaaDoor
