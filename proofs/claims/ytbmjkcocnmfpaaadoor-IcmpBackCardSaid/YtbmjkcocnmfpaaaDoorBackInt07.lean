/-
  IcmpBack, with the byte as a number. By an AI agent.
-/
import Derived.Test.YtbmjkcocnmfpaaaDoorBack07
import Derived.Test.YtbmjkcocnmfpaaaDoorOpen
namespace Go.Proofs.YtbmjkcocnmfpaaaDoor
open Go.RowKit
theorem back07_int (m : Ms) (A : Option Addr) (c : Nat) (at' y cut : Int) (w : World) (ok : m.ok) (hm : RB w (fun _ => True) (.slice A m.b.length c) m.b) (hg : ET w) (hy : (Lit.int .u8 y).wf = true) :
    Calls Tryd.prog 3 #[msv m (.slice A m.b.length c), .int .i64 at', .int .u8 y, .int .i64 cut] w fun e w' => e = .returned (.bool true) ∧ Ex (fun _ => False) w w' := by
  have h := back07_any m A c at' (by8 y) cut w ok hm hg
  rw [byte_of_wf hy] at h
  exact h
end Go.Proofs.YtbmjkcocnmfpaaaDoor
