/-
  Errors of layer 06: wrong, and the law's told. By an AI agent.
-/
import Derived.Test.YtfcfpkhcpijkfaaDoorRow

namespace Go.Proofs.YtfcfpkhcpijkfaaDoor
open Go.RowKit

def lay6 : List UInt8 := [117, 100, 112]
theorem told6_nil (w : World) : Calls Tryd.prog 18 #[.nilIface] w fun e w' => e = .returned (.string ⟨#[]⟩) ∧ w = w' := by
  go_enter Tryd.func18, Tryd.ntmps18
  go_wp2
  go_ret
  exact ⟨rfl, rfl⟩
theorem told6_any (P : Nat → Prop) (r : List (List UInt8)) (k : Nat) (v : Value) (w : World) (hec : EC w P r v k) (hk : k ≤ 13) (hl : (etx r k).length ≤ 1000) :
    Calls Tryd.prog 18 #[v] w fun e w' => e = .returned (.string (bs (etx r k))) ∧ Ex (fun _ => False) w w' := by
  obtain ⟨ty, y, f, rfl, g1, g2, g3⟩ := etext k hk r v w hec hl
  have G3 := Lib.hid g3
  clear g3 hec
  go_enter Tryd.func18, Tryd.ntmps18
  go_wp2_with fail
  refine (G3.out w (Ex.refl _ w)).mono ?_
  rintro e w' ⟨rfl, hx⟩
  have HX := Lib.hid hx
  clear hx
  go_wp2_with fail
  go_ret
  exact ⟨rfl, HX.out⟩
end Go.Proofs.YtfcfpkhcpijkfaaDoor
