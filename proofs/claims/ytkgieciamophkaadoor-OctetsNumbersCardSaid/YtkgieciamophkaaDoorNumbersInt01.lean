/-
  OctetsNumbers over integers. By an AI agent.
-/
import Derived.Test.YtkgieciamophkaaDoorNumbers01
namespace Go.Proofs.YtkgieciamophkaaDoor
theorem numbers_int (a b c d : Int) (w : World) (hg : ET w) (ha : 0 ≤ a ∧ a < 256) (hb : 0 ≤ b ∧ b < 256) (hc : 0 ≤ c ∧ c < 256) (hd : 0 ≤ d ∧ d < 256) :
    Calls Tryd.prog 3 #[.int .u8 a, .int .u8 b, .int .u8 c, .int .u8 d] w fun e w' => e = .returned (.bool true) ∧ Ex (fun _ => False) w w' := by
  have h := numbers_any (by8 a) (by8 b) (by8 c) (by8 d) w hg
  rw [by8_toNat, by8_toNat, by8_toNat, by8_toNat, show a % 256 = a by omega, show b % 256 = b by omega, show c % 256 = c by omega, show d % 256 = d by omega] at h
  exact h
end Go.Proofs.YtkgieciamophkaaDoor
