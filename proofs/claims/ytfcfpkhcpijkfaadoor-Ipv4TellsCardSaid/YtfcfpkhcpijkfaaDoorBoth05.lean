/-
  The contracts of ipv4 and its reference, united. By an AI agent.
-/
import Derived.Test.YtfcfpkhcpijkfaaDoorRefP05b
import Derived.Test.YtfcfpkhcpijkfaaDoorOf05
import Derived.Test.YtfcfpkhcpijkfaaDoorWr05
namespace Go.Proofs.YtfcfpkhcpijkfaaDoor
open Go.RowKit

/-- an error that says t, or none -/
def TV (w : World) (v : Value) (t : ByteArray) : Prop := (v = .nilIface ∧ t = ⟨#[]⟩) ∨ ∃ (P : Nat → Prop) (r : List (List UInt8)) (k : Nat), EC w P r v k ∧ k ≤ 13 ∧ (etx r k).length ≤ 1000 ∧ t = bs (etx r k)
theorem TV.keep {w w' : World} {v : Value} {t : ByteArray} (h : TV w v t) (hx : Ex (fun _ => False) w w') : TV w' v t := by
  rcases h with ⟨h1, h2⟩ | ⟨P, r, k, h1, h2⟩
  · exact .inl ⟨h1, h2⟩
  · exact .inr ⟨P, r, k, EC.keep hx (fun _ _ => id) h1, h2⟩
theorem told_tv {w : World} {v : Value} {t : ByteArray} (h : TV w v t) : Calls Tryd.prog 26 #[v] w fun e w' => e = .returned (.string t) ∧ Ex (fun _ => False) w w' := by
  rcases h with ⟨rfl, rfl⟩ | ⟨P, r, k, he, hk, hl, rfl⟩
  · refine (told5_nil w).mono ?_
    rintro e w' ⟨rfl, rfl⟩
    exact ⟨rfl, Ex.refl _ w⟩
  · exact told5_any P r k v w he hk hl
theorem etx5_len (k : Nat) (hk : k ≤ 13) : (etx [lay5] k).length ≤ 1000 := by
  have h : ∀ k < 14, (etx [lay5] k).length ≤ 1000 := by decide
  exact h k (by omega)
theorem perr_short {l : List UInt8} {r : List (List UInt8)} {k : Nat} (h : perr l = some (r, k)) : k ≤ 13 ∧ (etx r k).length ≤ 1000 := by
  unfold perr at h
  split at h
  · injection h with h; injection h with h1 h2; subst h1 h2; decide
  split at h
  · injection h with h; injection h with h1 h2
    have hk : k ≤ 13 := by
      rw [← h2]; unfold Hd.chk
      split
      · omega
      split
      · omega
      split
      · omega
      split
      · omega
      split
      · omega
      split
      · omega
      split <;> omega
    subst h1
    exact ⟨hk, etx5_len k hk⟩
  split at h
  · injection h with h; injection h with h1 h2; subst h1 h2; decide
  · cases h
theorem zpk_ok' : zpk.ok := by refine ⟨?_, ?_, ?_, ?_, ?_, ?_, ?_⟩ <;> decide
theorem rpk_ok (l : List UInt8) : (rpk l).ok := by
  unfold rpk
  split
  case isTrue h => exact (ppk_good h).2.1
  case isFalse => exact zpk_ok'
theorem rpk_len (l : List UInt8) : (rpk l).b.length ≤ l.length := by
  unfold rpk
  split
  case isTrue h => have := (ppk_good h).2.2.2.2.2.1; omega
  case isFalse => exact Nat.zero_le _
theorem parse_tv (P : Nat → Prop) (A : Option Addr) (n c : Nat) (l : List UInt8) (w : World) (hr : RB w P (.slice A n c) l) (hA : A = none → c = 0) (hl : l.length ≤ 1000000000) :
    Calls Tryd.prog 24 #[.slice A n c] w fun e w' => ∃ A' g o v, e = .returned (.tuple #[pkv (rpk l) (.slice A' (rpk l).b.length (rpk l).b.length), v]) ∧ w.heap.size ≤ g ∧ RB w' (fun j => j = g) (.slice A' (rpk l).b.length (rpk l).b.length) (rpk l).b ∧
      ((rpk l).b ≠ [] → A' = some ⟨g, o, none⟩ ∧ ∀ x, w'.frozen? ⟨g, x, none⟩ = false) ∧ TV w' v (rsays l) ∧ Ex (fun _ => False) w w' := by
  cases h : perr l with
  | none =>
    have e1 : rpk l = ppk l := if_pos h
    have e2 : rsays l = ⟨#[]⟩ := by unfold rsays; rw [h]
    rw [e1, e2]
    refine (ipparse_yes P A n c l w hr hA hl _ h rfl).mono ?_
    rintro e w' ⟨A', g, o, rfl, h1, h2, h3, hx⟩
    exact ⟨A', g, o, .nilIface, rfl, h1, h2, h3, .inl ⟨rfl, rfl⟩, hx⟩
  | some rk =>
    obtain ⟨r, k⟩ := rk
    have e1 : rpk l = zpk := by unfold rpk; rw [h]; rfl
    have e2 : rsays l = bs (etx r k) := by unfold rsays; rw [h]
    rw [e1, e2]
    refine (ipparse_no P A n c l w hr hA hl r k h).mono ?_
    rintro e w' ⟨t, y, rfl, he, hx⟩
    exact ⟨none, w.heap.size, 0, .iface t y, rfl, Nat.le_refl _, RB.nil _ _, fun h => absurd rfl h, .inr ⟨_, r, k, he, (perr_short h).1, (perr_short h).2, rfl⟩, hx⟩
theorem rtx_tv {w : World} {P : Nat → Prop} {v : Value} {p : Pk} (h : p.right ≠ 0) (he : EC w P [lay5] v p.right) : TV w v (rtx [lay5] p.right) := by
  have hk : p.right ≤ 13 := by obtain h | h | h := right_three p <;> rw [h] <;> decide
  exact .inr ⟨P, [lay5], p.right, he, hk, etx5_len _ hk, if_neg h⟩
theorem right_tv (p : Pk) (A : Option Addr) (c : Nat) (w : World) (hn : p.b.length ≤ 140737488355328) :
    Calls Tryd.prog 31 #[pkv p (.slice A p.b.length c)] w fun e w' => ∃ v, e = .returned v ∧ TV w' v (rtx [lay5] p.right) ∧ Ex (fun _ => False) w w' := by
  by_cases h : p.right = 0
  · refine (right_yes p A c w hn h).mono ?_
    rintro e w' ⟨rfl, hx⟩
    exact ⟨_, rfl, .inl ⟨rfl, by rw [h]; rfl⟩, hx⟩
  · refine (right_no p A c w hn h).mono ?_
    rintro e w' ⟨t, y, rfl, he, hx⟩
    exact ⟨_, rfl, rtx_tv h he, hx⟩
theorem bytes_tv (P : Nat → Prop) (p : Pk) (A : Option Addr) (c : Nat) (w : World) (ok : p.ok) (hr : RB w P (.slice A p.b.length c) p.b) (hn : p.b.length ≤ 1000000) :
    Calls Tryd.prog 29 #[pkv p (.slice A p.b.length c)] w fun e w' => ∃ A' l c' v, e = .returned (.tuple #[.slice A' l.length c', v]) ∧ RB w' (fun _ => True) (.slice A' l.length c') l ∧ rby p = bs l ∧ TV w' v (rtx [lay5] p.right) ∧ Ex (fun _ => False) w w' := by
  by_cases h : p.right = 0
  · refine (pbytes_yes P p A c w ok hr hn h).mono ?_
    rintro e w' ⟨g, c', rfl, ho, _, _, hx⟩
    exact ⟨_, pb p, c', _, rfl, RB.any ho.rb, if_pos h, .inl ⟨rfl, by rw [h]; rfl⟩, hx⟩
  · refine (pbytes_no P p A c w ok hr hn h).mono ?_
    rintro e w' ⟨t, y, rfl, he, hx⟩
    exact ⟨none, [], 0, _, rfl, RB.nil _ _, if_neg h, rtx_tv h he, hx⟩
end Go.Proofs.YtfcfpkhcpijkfaaDoor
