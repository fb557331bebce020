/-
  The contracts of ipv4's Right, Bytes and Parse, joined. By an AI agent.
-/
import Derived.Test.YtfcfpkhcpijkfaaDoorIpB
import Derived.Test.YtfcfpkhcpijkfaaDoorIpP
namespace Go.Proofs.YtfcfpkhcpijkfaaDoor
open Go.RowKit

theorem ipparse_any (P : Nat → Prop) (A : Option Addr) (n c : Nat) (l : List UInt8) (w : World) (hr : RB w P (.slice A n c) l) (hA : A = none → c = 0) (hl : l.length ≤ 1000000000) :
    Calls Tryd.prog 24 #[.slice A n c] w fun e w' => Ex (fun _ => False) w w' ∧
      ((∃ r k v, perr l = some (r, k) ∧ e = .returned (.tuple #[pkv zpk (.slice none 0 0), v]) ∧ EC w' (fun j => w.heap.size ≤ j) r v k) ∨
       (perr l = none ∧ ∃ A' g o, e = .returned (.tuple #[pkv (ppk l) (.slice A' (ppk l).b.length (ppk l).b.length), .nilIface]) ∧ w.heap.size ≤ g ∧ RB w' (fun j => j = g) (.slice A' (ppk l).b.length (ppk l).b.length) (ppk l).b ∧
         ((ppk l).b ≠ [] → A' = some ⟨g, o, none⟩ ∧ ∀ x, w'.frozen? ⟨g, x, none⟩ = false))) := by
  by_cases h20 : l.length < 20
  · refine (ipparse_1 P A n c l w hr hA hl h20).mono ?_
    rintro e w' ⟨hx, v, he, hec⟩
    exact ⟨hx, .inl ⟨_, _, v, by unfold perr; rw [if_pos h20], he, hec⟩⟩
  have h20' : 20 ≤ l.length := by omega
  by_cases hchk : (Hd.of l).chk (su (l.take 20)) l.length = 0
  case neg =>
    refine (ipparse_2 P A n c l w hr hA hl h20' hchk).mono ?_
    rintro e w' ⟨hx, v, he, hec⟩
    exact ⟨hx, .inl ⟨_, _, v, by unfold perr; rw [if_neg h20, if_pos hchk], he, hec⟩⟩
  by_cases hright : (ppk l).right = 0
  case neg =>
    refine (ipparse_3 P A n c l w hr hA hl h20' hchk hright).mono ?_
    rintro e w' ⟨hx, v, he, hec⟩
    exact ⟨hx, .inl ⟨_, _, v, by unfold perr; rw [if_neg h20, if_neg (by rw [hchk]; exact fun h => h rfl), if_pos hright], he, hec⟩⟩
  refine (ipparse_4 P A n c l w hr hA hl h20' hchk hright).mono ?_
  rintro e w' ⟨hx, h⟩
  exact ⟨hx, .inr ⟨by unfold perr; rw [if_neg h20, if_neg (by rw [hchk]; exact fun h => h rfl), if_neg (by rw [hright]; exact fun h => h rfl)], h⟩⟩
end Go.Proofs.YtfcfpkhcpijkfaaDoor
