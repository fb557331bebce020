/-
  The reference's Number. By an AI agent.
-/
import Derived.Test.YtkgieciamophkaaDoorNum
namespace Go.Proofs.YtkgieciamophkaaDoor
open Go.RowKit

theorem rnum_any (l : List UInt8) (hl : l.length ≤ 4) (w : World) : Calls Tryd.prog 52 #[.string (bs l)] w fun e w' => e = .returned (.int .u32 (nb l : Int)) ∧ w = w' := by
  have hz := bs_size l
  go_enter Tryd.func52, Tryd.ntmps52
  go_wp2
  go_loop [3, 4] (fun n i => ∃ k : Nat, k ≤ l.length ∧ i = .int .i64 (k : Int) ∧ n = .int .u32 (nb (l.take k) : Int)) (fun _ i => l.length - (intOf i).toNat)
  case atStart => exact ⟨0, by omega, rfl, rfl⟩
  case round =>
    obtain ⟨k, hk, rfl, rfl⟩ := hrel
    by_cases hlt : k < l.length
    · have e0 := bs_get l k hlt
      have b0 := (l[k]).toNat_lt
      have hs := nb_small l k 3 16777216 (by omega) (by decide)
      have hn : Hid (nb (l.take (k + 1)) = nb (l.take k) * 256 + l[k].toNat) := Lib.hid (nb_next l k hlt)
      go_wp2
      go_round
      case rel => exact ⟨k + 1, by omega, by go_num, by rw [hn.out]; go_num⟩
      case measure => simp [intOf]; omega
    · obtain rfl : k = l.length := by omega
      have ht : l.take l.length = l := List.take_length
      go_wp2
      go_ret
      exact ⟨rfl, rfl⟩
end Go.Proofs.YtkgieciamophkaaDoor
