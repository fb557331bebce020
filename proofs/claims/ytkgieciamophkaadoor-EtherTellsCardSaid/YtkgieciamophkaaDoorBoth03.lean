/-
  The contracts of ether, united. By an AI agent.
-/
import Derived.Test.YtkgieciamophkaaDoorOf03
import Derived.Test.YtkgieciamophkaaDoorFrLaw
namespace Go.Proofs.YtkgieciamophkaaDoor
open Go.RowKit

/-- an error that says t, or none -/
def TV (w : World) (v : Value) (t : ByteArray) : Prop := (v = .nilIface ∧ t = ⟨#[]⟩) ∨ ∃ (P : Nat → Prop) (r : List (List UInt8)) (k : Nat), EC w P r v k ∧ k ≤ 13 ∧ (etx r k).length ≤ 1000 ∧ t = bs (etx r k)
theorem TV.keep {w w' : World} {v : Value} {t : ByteArray} (h : TV w v t) (hx : Ex (fun _ => False) w w') : TV w' v t := by
  rcases h with ⟨h1, h2⟩ | ⟨P, r, k, h1, h2⟩
  · exact .inl ⟨h1, h2⟩
  · exact .inr ⟨P, r, k, EC.keep hx (fun _ _ => id) h1, h2⟩
theorem told3_tv {w : World} {v : Value} {t : ByteArray} (h : TV w v t) : Calls Tryd.prog 36 #[v] w fun e w' => e = .returned (.string t) ∧ Ex (fun _ => False) w w' := by
  rcases h with ⟨rfl, rfl⟩ | ⟨P, r, k, he, hk, hl, rfl⟩
  · refine (told3_nil w).mono ?_
    rintro e w' ⟨rfl, rfl⟩
    exact ⟨rfl, Ex.refl _ w⟩
  · exact told3_any P r k v w he hk hl
/-- the frame that Parse gives, and what it says -/
def zf : Fr := ⟨[0, 0, 0, 0, 0, 0], [0, 0, 0, 0, 0, 0], 0, 0, []⟩
theorem zf_ok : zf.ok := ⟨rfl, rfl, by decide, by decide, by decide⟩
def efr (l : List UInt8) : Fr := if 9000 < l.length then zf else (pframe l).getD zf
def eyes (l : List UInt8) : Bool := !decide (9000 < l.length) && (pframe l).isSome
def esays (l : List UInt8) : ByteArray := if 9000 < l.length then bs (etx [lay3] 7) else if (pframe l).isSome then ⟨#[]⟩ else bs (etx [lay3, lay1] 2)
theorem etx3_7 : (etx [lay3] 7).length ≤ 1000 := by decide
theorem etx3_1 : (etx [lay3] 1).length ≤ 1000 := by decide
theorem etx31_2 : (etx [lay3, lay1] 2).length ≤ 1000 := by decide
theorem efr_no {l : List UInt8} (h : eyes l = false) : efr l = zf := by
  unfold efr
  by_cases h9 : 9000 < l.length
  · exact if_pos h9
  · rw [if_neg h9]
    unfold eyes at h
    rw [decide_eq_false h9] at h
    cases hp : pframe l with
    | none => rfl
    | some f => rw [hp] at h; cases h
theorem esays_yes {l : List UInt8} : eyes l = true ↔ esays l = ⟨#[]⟩ := by
  have h1 : bs (etx [lay3] 7) ≠ ⟨#[]⟩ := by decide
  have h2 : bs (etx [lay3, lay1] 2) ≠ ⟨#[]⟩ := by decide
  unfold eyes esays
  by_cases h9 : 9000 < l.length
  · rw [if_pos h9, decide_eq_true h9]; simp [h1]
  · rw [if_neg h9, decide_eq_false h9]
    cases hp : pframe l with
    | none => simp [h2]
    | some f => simp
theorem efr_ok (l : List UInt8) : (efr l).ok := by
  by_cases h9 : 9000 < l.length
  · rw [show efr l = zf from if_pos h9]; exact zf_ok
  · rw [show efr l = (pframe l).getD zf from if_neg h9]
    cases hp : pframe l with
    | none => exact zf_ok
    | some f => exact (fbytes_pframe hp).2.1
theorem efr_len (l : List UInt8) : (efr l).b.length ≤ l.length := by
  by_cases h9 : 9000 < l.length
  · rw [show efr l = zf from if_pos h9]; exact Nat.zero_le _
  · rw [show efr l = (pframe l).getD zf from if_neg h9]
    cases hp : pframe l with
    | none => exact Nat.zero_le _
    | some f =>
      have h := congrArg List.length (fbytes_pframe hp).1
      rw [fbytes_head, List.length_append] at h
      show f.b.length ≤ _
      omega
theorem eparse_tv (P : Nat → Prop) (A : Option Addr) (n c : Nat) (l : List UInt8) (w : World) (hr : RB w P (.slice A n c) l) (hA : A = none → c = 0) (hl : l.length ≤ 1000000000) :
    Calls Tryd.prog 34 #[.slice A n c] w fun e w' => ∃ A' g o v, e = .returned (.tuple #[frv (efr l) (.slice A' (efr l).b.length (efr l).b.length), v]) ∧ w.heap.size ≤ g ∧ RB w' (fun j => j = g) (.slice A' (efr l).b.length (efr l).b.length) (efr l).b ∧
      ((efr l).b ≠ [] → A' = some ⟨g, o, none⟩ ∧ ∀ x, w'.frozen? ⟨g, x, none⟩ = false) ∧ TV w' v (esays l) ∧ Ex (fun _ => False) w w' := by
  refine (parse_any P A n c l w hr hA hl).mono ?_
  rintro e w' ⟨hx, h | h | h⟩
  · obtain ⟨h9, v, rfl, he⟩ := h
    have e1 : efr l = zf := if_pos h9
    have e2 : esays l = bs (etx [lay3] 7) := if_pos h9
    rw [e1, e2]
    exact ⟨none, w.heap.size, 0, v, rfl, Nat.le_refl _, RB.nil _ _, fun h => absurd rfl h, .inr ⟨_, [lay3], 7, he, by decide, etx3_7, rfl⟩, hx⟩
  · obtain ⟨h9, hp, v, rfl, he⟩ := h
    have h9' : ¬ 9000 < l.length := by omega
    have e1 : efr l = zf := by unfold efr; rw [if_neg h9', hp]; rfl
    have e2 : esays l = bs (etx [lay3, lay1] 2) := by unfold esays; rw [if_neg h9', hp]; rfl
    rw [e1, e2]
    exact ⟨none, w.heap.size, 0, v, rfl, Nat.le_refl _, RB.nil _ _, fun h => absurd rfl h, .inr ⟨_, [lay3, lay1], 2, he, by decide, etx31_2, rfl⟩, hx⟩
  · obtain ⟨h9, f, A', g, o, hp, rfl, hg, hb, hf⟩ := h
    have h9' : ¬ 9000 < l.length := by omega
    have e1 : efr l = f := by unfold efr; rw [if_neg h9', hp]; rfl
    have e2 : esays l = ⟨#[]⟩ := by unfold esays; rw [if_neg h9', hp]; rfl
    rw [e1, e2]
    exact ⟨A', g, o, .nilIface, rfl, hg, hb, hf, .inl ⟨rfl, rfl⟩, hx⟩
instance (f : Fr) : Decidable (badfr f) := by unfold badfr; infer_instance
/-- the bytes that Bytes gives, and what it says -/
def ebs (f : Fr) : List UInt8 := if badfr f then [] else if 9000 < (fbytes f).length then [] else fbytes f
def ebsays (f : Fr) : ByteArray := if badfr f then bs (etx [lay3] 1) else if 9000 < (fbytes f).length then bs (etx [lay3] 7) else ⟨#[]⟩
theorem ebs_len (f : Fr) : (ebs f).length ≤ 9000 := by
  unfold ebs
  split
  · exact Nat.zero_le _
  split
  · exact Nat.zero_le _
  · omega
theorem ebytes_tv (P : Nat → Prop) (f : Fr) (A : Option Addr) (n c : Nat) (w : World) (ok : f.ok) (hr : RB w P (.slice A n c) f.b) (hb : f.b.length ≤ 1000000) :
    Calls Tryd.prog 38 #[frv f (.slice A n c)] w fun e w' => ∃ A' g c' v, e = .returned (.tuple #[.slice A' (ebs f).length c', v]) ∧ w.heap.size ≤ g ∧ RB w' (fun j => j = g) (.slice A' (ebs f).length c') (ebs f) ∧
      (ebs f ≠ [] → A' = some ⟨g, 0, none⟩ ∧ g < w'.heap.size ∧ ∀ x, w'.frozen? ⟨g, x, none⟩ = false) ∧ TV w' v (ebsays f) ∧ Ex (fun _ => False) w w' := by
  refine (fbytes_any P f A n c w ok hr hb).mono ?_
  rintro e w' ⟨hx, h | h | h⟩
  · obtain ⟨h1, v, rfl, he⟩ := h
    have e1 : ebs f = [] := if_pos h1
    have e2 : ebsays f = bs (etx [lay3] 1) := if_pos h1
    rw [e1, e2]
    exact ⟨none, w.heap.size, 0, v, rfl, Nat.le_refl _, RB.nil _ _, fun h => absurd rfl h, .inr ⟨_, [lay3], 1, he, by decide, etx3_1, rfl⟩, hx⟩
  · obtain ⟨h1, h2, v, rfl, he⟩ := h
    have e1 : ebs f = [] := by unfold ebs; rw [if_neg h1, if_pos h2]
    have e2 : ebsays f = bs (etx [lay3] 7) := by unfold ebsays; rw [if_neg h1, if_pos h2]
    rw [e1, e2]
    exact ⟨none, w.heap.size, 0, v, rfl, Nat.le_refl _, RB.nil _ _, fun h => absurd rfl h, .inr ⟨_, [lay3], 7, he, by decide, etx3_7, rfl⟩, hx⟩
  · obtain ⟨h1, h2, A', c', rfl, ho⟩ := h
    have h2' : ¬ 9000 < (fbytes f).length := by omega
    have e1 : ebs f = fbytes f := by unfold ebs; rw [if_neg h1, if_neg h2']
    have e2 : ebsays f = ⟨#[]⟩ := by unfold ebsays; rw [if_neg h1, if_neg h2']
    rw [e1, e2]
    rcases ho.2.2 with ⟨h, _⟩ | ⟨g, cap, cur, h, hg, hh, _⟩
    · cases h
    · injection h with h3 h4 h5
      obtain rfl := Option.some.inj h3
      refine ⟨_, g, c', .nilIface, rfl, hg, ho.rb.mono (fun k _ h => by have := h.1; injection this with this; exact this.symm), fun _ => ⟨rfl, (Array.getElem?_eq_some_iff.1 hh).1, fun x => row_frozen hh x⟩, .inl ⟨rfl, rfl⟩, hx⟩
end Go.Proofs.YtkgieciamophkaaDoor
