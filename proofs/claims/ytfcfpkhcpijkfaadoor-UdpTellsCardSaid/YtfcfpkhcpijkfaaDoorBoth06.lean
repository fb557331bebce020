/-
  The contracts of udp and its reference, united. By an AI agent.
-/
import Derived.Test.YtfcfpkhcpijkfaaDoorRefU06
import Derived.Test.YtfcfpkhcpijkfaaDoorDgW
namespace Go.Proofs.YtfcfpkhcpijkfaaDoor
open Go.RowKit

/-- an error that says t, or none -/
def TV (w : World) (v : Value) (t : ByteArray) : Prop := (v = .nilIface ∧ t = ⟨#[]⟩) ∨ ∃ (P : Nat → Prop) (r : List (List UInt8)) (k : Nat), EC w P r v k ∧ k ≤ 13 ∧ (etx r k).length ≤ 1000 ∧ t = bs (etx r k)
theorem TV.keep {w w' : World} {v : Value} {t : ByteArray} (h : TV w v t) (hx : Ex (fun _ => False) w w') : TV w' v t := by
  rcases h with ⟨h1, h2⟩ | ⟨P, r, k, h1, h2⟩
  · exact .inl ⟨h1, h2⟩
  · exact .inr ⟨P, r, k, EC.keep hx (fun _ _ => id) h1, h2⟩

theorem told6_tv {w : World} {v : Value} {t : ByteArray} (h : TV w v t) : Calls Tryd.prog 18 #[v] w fun e w' => e = .returned (.string t) ∧ Ex (fun _ => False) w w' := by
  rcases h with ⟨rfl, rfl⟩ | ⟨P, r, k, he, hk, hl, rfl⟩
  · refine (told6_nil w).mono ?_
    rintro e w' ⟨rfl, rfl⟩
    exact ⟨rfl, Ex.refl _ w⟩
  · exact told6_any P r k v w he hk hl
theorem uerr_short {l : List UInt8} {s t : Int} {r : List (List UInt8)} {k : Nat} (h : uerr l s t = some (r, k)) : k ≤ 13 ∧ (etx r k).length ≤ 1000 := by
  unfold uerr at h
  split at h
  · injection h with h; injection h with h1 h2; subst h1 h2; decide
  split at h
  · injection h with h; injection h with h1 h2; subst h1 h2; decide
  split at h
  · injection h with h; injection h with h1 h2; subst h1 h2; decide
  split at h
  · injection h with h; injection h with h1 h2; subst h1 h2; decide
  · cases h
/-- the datagram that Parse gives, and what it says -/
def udg (l : List UInt8) (s t : Int) : Dg := if uerr l s t = none then pd l else zdg
def usays (l : List UInt8) (s t : Int) : ByteArray := match uerr l s t with
  | none => ⟨#[]⟩
  | some (r, k) => bs (etx r k)
theorem udg_ok (l : List UInt8) (s t : Int) : (udg l s t).ok := by
  unfold udg
  split
  · exact pd_ok l
  · exact zdg_ok
theorem udg_len (l : List UInt8) (s t : Int) : (udg l s t).b.length ≤ l.length := by
  unfold udg
  split
  · show ((l.take (dsz l)).drop 8).length ≤ _; rw [List.length_drop, List.length_take]; omega
  · exact Nat.zero_le _
theorem uparse_tv (P : Nat → Prop) (A : Option Addr) (n c : Nat) (l : List UInt8) (s t : Int) (w : World) (hr : RB w P (.slice A n c) l) (hA : A = none → c = 0) (hl : l.length ≤ 1000000000) (hs : 0 ≤ s ∧ s < 4294967296) (ht : 0 ≤ t ∧ t < 4294967296) :
    Calls Tryd.prog 16 #[.slice A n c, .int .u32 s, .int .u32 t] w fun e w' => ∃ A' v, e = .returned (.tuple #[dgv (udg l s t) (.slice A' (udg l s t).b.length (udg l s t).b.length), v]) ∧ RB w' (fun j => w.heap.size ≤ j) (.slice A' (udg l s t).b.length (udg l s t).b.length) (udg l s t).b ∧ WrB w w' A' (udg l s t).b ∧ TV w' v (usays l s t) ∧ Ex (fun _ => False) w w' := by
  cases h : uerr l s t with
  | none =>
    have e1 : udg l s t = pd l := if_pos h
    have e2 : usays l s t = ⟨#[]⟩ := by unfold usays; rw [h]
    rw [e1, e2]
    refine (uparse_yesW P A n c l s t w hr hA hl hs ht h).mono ?_
    rintro e w' ⟨A', rfl, h1, h2, hx⟩
    exact ⟨A', .nilIface, rfl, h1, h2, .inl ⟨rfl, rfl⟩, hx⟩
  | some rk =>
    obtain ⟨r, k⟩ := rk
    have e1 : udg l s t = zdg := by unfold udg; rw [h]; rfl
    have e2 : usays l s t = bs (etx r k) := by unfold usays; rw [h]
    rw [e1, e2]
    refine (uparse_no P A n c l s t w hr hA hl hs ht r k h).mono ?_
    rintro e w' ⟨v, rfl, he, hx⟩
    exact ⟨none, v, rfl, RB.nil _ _, fun h => absurd rfl h, .inr ⟨_, r, k, he, (uerr_short h).1, (uerr_short h).2, rfl⟩, hx⟩
theorem rparse6_any (l : List UInt8) (s t : Int) (w : World) (hl : l.length ≤ 1000000) (hs : 0 ≤ s ∧ s < 4294967296) (ht : 0 ≤ t ∧ t < 4294967296) :
    Calls Tryd.prog 17 #[.string (bs l), .int .u32 s, .int .u32 t] w fun e w' => e = .returned (.tuple #[rdv (udg l s t), .string (usays l s t)]) ∧ Ex (fun _ => False) w w' := by
  have bad : ∀ r k, uerr l s t = some (r, k) → (.tuple #[rdv (udg l s t), .string (usays l s t)] : Value) = .tuple #[rdv zdg, .string (bs (etx r k))] := fun r k h => by
    have e1 : udg l s t = zdg := by unfold udg; rw [h]; rfl
    have e2 : usays l s t = bs (etx r k) := by unfold usays; rw [h]
    rw [e1, e2]
  have good : uerr l s t = none → (.tuple #[rdv (udg l s t), .string (usays l s t)] : Value) = .tuple #[rdv (pd l), .string ⟨#[]⟩] := fun h => by
    have e1 : udg l s t = pd l := if_pos h
    have e2 : usays l s t = ⟨#[]⟩ := by unfold usays; rw [h]
    rw [e1, e2]
  by_cases h8 : l.length < 8
  · rw [bad _ _ (show uerr l s t = some ([lay6, lay1], 2) from if_pos h8)]
    exact rp6_short l s t w hl h8
  by_cases hz : dsz l < 8
  · rw [bad _ _ (show uerr l s t = some ([lay6], 3) by unfold uerr; rw [if_neg h8, if_pos hz])]
    exact rp6_form l s t w hl (by omega) hz
  by_cases hx : l.length < dsz l
  · rw [bad _ _ (show uerr l s t = some ([lay6], 2) by unfold uerr; rw [if_neg h8, if_neg hz, if_pos hx])]
    exact rp6_cut l s t w hl (by omega) (by omega) hx
  by_cases hp : dsm l = 0
  · rw [good (show uerr l s t = none by unfold uerr; rw [if_neg h8, if_neg hz, if_neg hx, if_neg (fun h => h.1 hp)])]
    exact rp6_plain l s t w hl (by omega) (by omega) (by omega) hp
  by_cases hq : su (psd s t 17 (dsz l : Int) ++ l.take (dsz l)) = 0
  · rw [good (show uerr l s t = none by unfold uerr; rw [if_neg h8, if_neg hz, if_neg hx, if_neg (fun h => h.2 hq)])]
    exact rp6_yes l s t w hl (by omega) (by omega) (by omega) hp hs ht hq
  · rw [bad _ _ (show uerr l s t = some ([lay6], 4) by unfold uerr; rw [if_neg h8, if_neg hz, if_neg hx, if_pos ⟨hp, hq⟩])]
    exact rp6_sum l s t w hl (by omega) (by omega) (by omega) hp hs ht hq
end Go.Proofs.YtfcfpkhcpijkfaaDoor
