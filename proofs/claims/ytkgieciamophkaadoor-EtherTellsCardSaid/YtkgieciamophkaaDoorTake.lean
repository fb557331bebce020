/-
  The contracts of octets.Reader: take, Bytes, Rest, U8, U16, U32. By an AI agent.
-/
import Derived.Test.YtkgieciamophkaaDoorRead
namespace Go.Proofs.YtkgieciamophkaaDoor
open Go.RowKit

/-- what is taken -/
def Took (w : World) (p g o : Nat) (l : List UInt8) (n : Nat) (u : Value) (w' : World) : Prop :=
  ∃ A, u = .slice A n n ∧ (l = [] ∨ A = some ⟨g, o, none⟩) ∧ RB w' (fun j => j = g) u (l.take n) ∧ RD w' p g (o + n) (l.drop n) ∧ Ex (fun j => j = p) w w'

theorem took_none {w : World} {p g o c : Nat} (h1 : w.cell? ⟨p, 0, none⟩ = some (.slice none 0 c)) (h2 : w.frozen? ⟨p, 0, none⟩ = false) (h5 : g ≠ p) : Took w p g o [] 0 (.slice none 0 0) (w.setCell ⟨p, 0, none⟩ (.slice none 0 c)) :=
  ⟨none, rfl, .inl rfl, RB.nil _ _, ⟨none, c, by rw [World.cell?_setCell_same _ _ _ h1]; rfl, by rw [World.frozen?_setCell]; exact h2, by simp, by simp, h5, fun _ => by simp, (fun b hb => by cases hb), fun i hi => by simp at hi⟩, (Ex.refl (fun j => j = p) w).setCell (p := ⟨p, 0, none⟩) (.inl rfl) _⟩
theorem took_some {w : World} {p g o b o' c n x : Nat} {l : List UInt8} (h1 : w.cell? ⟨p, 0, none⟩ = some (.slice (some ⟨b, o', none⟩) l.length c)) (h2 : w.frozen? ⟨p, 0, none⟩ = false) (h3 : l.length ≤ c) (h4 : l.length ≤ 1000000000) (h5 : g ≠ p)
    (h8 : ∀ i (h : i < l.length), some (⟨b, o', none⟩ : Addr) = some ⟨g, o, none⟩ ∧ w.cell? ⟨g, o + i, none⟩ = some (.int .u8 (l[i].toNat : Int))) (hn : n ≤ l.length) (hx : x = o' + n ∨ c = n) :
    Took w p g o l n (.slice (some ⟨b, o', none⟩) n n) (w.setCell ⟨p, 0, none⟩ (.slice (some ⟨b, x, none⟩) (l.length - n) (c - n))) := by
  have hex : Ex (fun j => j = p) w (w.setCell ⟨p, 0, none⟩ (.slice (some ⟨b, x, none⟩) (l.length - n) (c - n))) := (Ex.refl (fun j => j = p) w).setCell (p := ⟨p, 0, none⟩) (.inl rfl) _
  refine ⟨_, rfl, ?_, ⟨by simp; omega, _, n, by rw [List.length_take, Nat.min_eq_left hn], by rw [List.length_take]; omega, fun i hi => ?_⟩, ⟨some ⟨b, x, none⟩, c - n, ?_, ?_, by simp; omega, by simp; omega, h5, (fun h => by cases h), (fun a ha => by obtain rfl := Option.some.inj ha; rfl), fun i hi => ?_⟩, hex⟩
  · cases l with
    | nil => exact .inl rfl
    | cons y r => exact .inr (h8 0 (by simp)).1
  · have hi' : i < l.length := by simp at hi; omega
    obtain ⟨e, hc⟩ := h8 i hi'
    refine ⟨g, o, e, rfl, ?_⟩
    rw [hex.cell hc h5, List.getElem_take]
  · rw [World.cell?_setCell_same _ _ _ h1, List.length_drop]
  · rw [World.frozen?_setCell]; exact h2
  · simp at hi
    obtain ⟨e, hc⟩ := h8 (n + i) (by omega)
    have e := Option.some.inj e
    injection e with e1 e2 e3
    subst e1 e2
    have : x = o' + n := by rcases hx with h | h; exact h; omega
    subst this
    refine ⟨rfl, ?_⟩
    rw [Nat.add_assoc, hex.cell hc h5, List.getElem_drop]

theorem take_few (p g o : Nat) (l : List UInt8) (n : Int) (w : World) (h : RD w p g o l) (hn : (l.length : Int) < n) :
    Calls Tryd.prog 46 #[.pointer (some ⟨p, 0, none⟩), .int .i64 n] w fun e w' => ∃ v, e = .returned (.tuple #[.slice none 0 0, v]) ∧ EC w' (fun j => j = w.heap.size) [lay1] v 2 ∧ Ex (fun _ => False) w w' := by
  obtain ⟨A, c, h1, h2, h3, h4, h5, h6, h7, h8⟩ := h
  clear h2 h6 h7 h8
  go_enter Tryd.func46, Tryd.ntmps46
  go_wp2_with fail
  refine (wrong1_any 2 w).mono ?_
  rintro e w' ⟨v, rfl, he, hx⟩
  have HE := Lib.hid he
  have HX := Lib.hid hx
  clear he hx
  go_wp2_with fail
  go_ret2
  exact ⟨v, rfl, HE.out, HX.out⟩

set_option maxRecDepth 100000 in
theorem take_any (p g o : Nat) (l : List UInt8) (n : Nat) (w : World) (h : RD w p g o l) (hn : n ≤ l.length) :
    Calls Tryd.prog 46 #[.pointer (some ⟨p, 0, none⟩), .int .i64 (n : Int)] w fun e w' => ∃ u, e = .returned (.tuple #[u, .nilIface]) ∧ Took w p g o l n u w' := by
  have h0 := h
  obtain ⟨A, c, h1, h2, h3, h4, h5, h6, h7, h8⟩ := h
  have hlt := World.block_lt_of_cell? w _ h1
  cases A with
  | none =>
    obtain rfl := h6 rfl
    obtain rfl : n = 0 := by simpa using hn
    clear h6 h7 h8
    have HT : Hid (Took w p g o [] 0 (.slice none 0 0) (w.setCell ⟨p, 0, none⟩ (.slice none 0 c))) := took_none h1 h2 h5
    clear h0
    go_enter Tryd.func46, Tryd.ntmps46
    go_wp2_with fail
    go_ret2
    exact ⟨_, rfl, HT.out⟩
  | some a =>
    obtain ⟨b, o', sp⟩ := a
    obtain rfl : sp = none := h7 _ rfl
    have hni : (n : Int) ≤ (l.length : Int) := by omega
    have hci : (l.length : Int) ≤ (c : Int) := by omega
    have HT1 := fun (hc : c = n) => Lib.hid (took_some (x := o') h1 h2 h3 h4 h5 h8 hn (.inr hc))
    have HT2 := Lib.hid (took_some h1 h2 h3 h4 h5 h8 hn (.inl rfl))
    clear h6 h7 h8 h0
    go_enter Tryd.func46, Tryd.ntmps46
    by_cases hcn : c = n
    · have HT1' := HT1 hcn
      clear HT1 HT2
      subst hcn
      go_wp2_with fail
      go_ret2
      refine ⟨_, rfl, ?_⟩
      have := HT1'.out
      rw [Nat.sub_self, show l.length - c = 0 by omega] at this
      exact this
    · clear HT1
      go_wp2_with fail
      go_ret2
      exact ⟨_, rfl, HT2.out⟩
end Go.Proofs.YtkgieciamophkaaDoor
