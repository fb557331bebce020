/-
  Ipv4Spoilt, with the byte as a number. By an AI agent.
-/
import Derived.Test.YtfcfpkhcpijkfaaDoorSpoilt05
import Derived.Test.YtfcfpkhcpijkfaaDoorOpen
namespace Go.Proofs.YtfcfpkhcpijkfaaDoor
open Go.RowKit
theorem spoilt05_int (p : Pk) (A : Option Addr) (c : Nat) (at' y cut : Int) (w : World) (ok : p.ok) (hp : RB w (fun _ => True) (.slice A p.b.length c) p.b) (hg : ET w) (hy : (Lit.int .u8 y).wf = true) :
    Calls Tryd.prog 10 #[pkv p (.slice A p.b.length c), .int .i64 at', .int .u8 y, .int .i64 cut] w fun e w' => e = .returned (.bool true) ∧ Ex (fun _ => False) w w' := by
  have h := spoilt05_any p A c at' (by8 y) cut w ok hp hg
  rw [byte_of_wf hy] at h
  exact h
end Go.Proofs.YtfcfpkhcpijkfaaDoor
