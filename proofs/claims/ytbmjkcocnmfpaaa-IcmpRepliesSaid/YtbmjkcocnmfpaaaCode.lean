/-
  errors.As at a *Errno, and api.Code: the walks. By an AI agent. (Turned from the worked example ToyasAs.)
-/
import Derived.Test.YtbmjkcocnmfpaaaAs
import Derived.Deep.LoopGhost
namespace Go.Proofs.Ytbmjkcocnmfpaaa
open Go.RowKit Go.Extern.Stop Go.Stop Go.Extern

theorem EC.shape {w : World} {P : Nat → Prop} {r : List (List UInt8)} {v : Value} {k : Nat} (h : EC w P r v k) : ∃ ty y, v = .iface ty y := by
  cases r with
  | nil => exact ⟨_, _, h⟩
  | cons s r => obtain ⟨e, v', h1, _⟩ := h; exact ⟨_, _, h1⟩

end Go.Proofs.Ytbmjkcocnmfpaaa
