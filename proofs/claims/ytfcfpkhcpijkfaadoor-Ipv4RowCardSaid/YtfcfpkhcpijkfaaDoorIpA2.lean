/-
  The contracts of ipv4, one for each way. By an AI agent.
-/
import Derived.Test.YtfcfpkhcpijkfaaDoorIpA
import Derived.Test.YtfcfpkhcpijkfaaDoorIpLaw2
namespace Go.Proofs.YtfcfpkhcpijkfaaDoor
open Go.RowKit

theorem right_no (p : Pk) (A : Option Addr) (c : Nat) (w : World) (hn : p.b.length ≤ 140737488355328) (h : p.right ≠ 0) :
    Calls Tryd.prog 31 #[pkv p (.slice A p.b.length c)] w fun e w' => ∃ t y, e = .returned (.iface t y) ∧ EC w' (fun j => w.heap.size ≤ j) [lay5] (.iface t y) p.right ∧ Ex (fun _ => False) w w' := by
  refine (right_any p A c w hn).mono ?_
  rintro e w' ⟨hx, ⟨h', _⟩ | ⟨_, v, rfl, he⟩⟩
  · exact absurd h' h
  · obtain ⟨t, y, rfl⟩ := he.shape
    exact ⟨t, y, rfl, he, hx⟩
theorem right_yes (p : Pk) (A : Option Addr) (c : Nat) (w : World) (hn : p.b.length ≤ 140737488355328) (h : p.right = 0) :
    Calls Tryd.prog 31 #[pkv p (.slice A p.b.length c)] w fun e w' => e = .returned .nilIface ∧ Ex (fun _ => False) w w' := by
  refine (right_any p A c w hn).mono ?_
  rintro e w' ⟨hx, ⟨_, rfl⟩ | ⟨h', _⟩⟩
  · exact ⟨rfl, hx⟩
  · exact absurd h h'
theorem pbytes_no (P : Nat → Prop) (p : Pk) (A : Option Addr) (c : Nat) (w : World) (ok : p.ok) (hr : RB w P (.slice A p.b.length c) p.b) (hn : p.b.length ≤ 1000000) (h : p.right ≠ 0) :
    Calls Tryd.prog 29 #[pkv p (.slice A p.b.length c)] w fun e w' => ∃ t y, e = .returned (.tuple #[.slice none 0 0, .iface t y]) ∧ EC w' (fun j => w.heap.size ≤ j) [lay5] (.iface t y) p.right ∧ Ex (fun _ => False) w w' := by
  refine (pbytes_any P p A c w ok hr hn).mono ?_
  rintro e w' ⟨hx, ⟨_, v, rfl, he⟩ | ⟨h', _⟩⟩
  · obtain ⟨t, y, rfl⟩ := he.shape
    exact ⟨t, y, rfl, he, hx⟩
  · exact absurd h' h
theorem pbytes_yes (P : Nat → Prop) (p : Pk) (A : Option Addr) (c : Nat) (w : World) (ok : p.ok) (hr : RB w P (.slice A p.b.length c) p.b) (hn : p.b.length ≤ 1000000) (h : p.right = 0) :
    Calls Tryd.prog 29 #[pkv p (.slice A p.b.length c)] w fun e w' => ∃ g c', e = .returned (.tuple #[.slice (some ⟨g, 0, none⟩) (pb p).length c', .nilIface]) ∧ OB w' w.heap.size (.slice (some ⟨g, 0, none⟩) (pb p).length c') (pb p) ∧ w.heap.size ≤ g ∧ g < w'.heap.size ∧ Ex (fun _ => False) w w' := by
  refine (pbytes_any P p A c w ok hr hn).mono ?_
  rintro e w' ⟨hx, ⟨h', _⟩ | ⟨_, A', c', rfl, ho⟩⟩
  · exact absurd h h'
  · obtain ⟨g, rfl, h1, h2⟩ := ho.plain
    exact ⟨g, c', rfl, ho, h1, h2, hx⟩
theorem ipparse_no (P : Nat → Prop) (A : Option Addr) (n c : Nat) (l : List UInt8) (w : World) (hr : RB w P (.slice A n c) l) (hA : A = none → c = 0) (hl : l.length ≤ 1000000000) (r : List (List UInt8)) (k : Nat) (h : perr l = some (r, k)) :
    Calls Tryd.prog 24 #[.slice A n c] w fun e w' => ∃ t y, e = .returned (.tuple #[pkv zpk (.slice none 0 0), .iface t y]) ∧ EC w' (fun j => w.heap.size ≤ j) r (.iface t y) k ∧ Ex (fun _ => False) w w' := by
  refine (ipparse_any P A n c l w hr hA hl).mono ?_
  rintro e w' ⟨hx, ⟨r', k', v, h1, rfl, he⟩ | ⟨h1, _⟩⟩
  · rw [h] at h1
    injection h1 with h1
    injection h1 with h1 h2
    subst h1 h2
    obtain ⟨t, y, rfl⟩ := he.shape
    exact ⟨t, y, rfl, he, hx⟩
  · rw [h] at h1; cases h1
theorem ipparse_yes (P : Nat → Prop) (A : Option Addr) (n c : Nat) (l : List UInt8) (w : World) (hr : RB w P (.slice A n c) l) (hA : A = none → c = 0) (hl : l.length ≤ 1000000000) (p : Pk) (h : perr l = none) (hp : ppk l = p) :
    Calls Tryd.prog 24 #[.slice A n c] w fun e w' => ∃ A' g o, e = .returned (.tuple #[pkv p (.slice A' p.b.length p.b.length), .nilIface]) ∧ w.heap.size ≤ g ∧ RB w' (fun j => j = g) (.slice A' p.b.length p.b.length) p.b ∧
      (p.b ≠ [] → A' = some ⟨g, o, none⟩ ∧ ∀ x, w'.frozen? ⟨g, x, none⟩ = false) ∧ Ex (fun _ => False) w w' := by
  subst hp
  refine (ipparse_any P A n c l w hr hA hl).mono ?_
  rintro e w' ⟨hx, ⟨r', k', v, h1, _⟩ | ⟨_, A', g, o, rfl, h2, h3, h4⟩⟩
  · rw [h] at h1; cases h1
  · exact ⟨A', g, o, rfl, h2, h3, h4, hx⟩
end Go.Proofs.YtfcfpkhcpijkfaaDoor
