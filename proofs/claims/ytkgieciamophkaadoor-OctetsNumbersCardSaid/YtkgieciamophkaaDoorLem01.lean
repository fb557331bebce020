/-
  Small laws for the walks of law 01. By an AI agent.
-/
import Derived.Test.YtkgieciamophkaaDoorShown01
namespace Go.Proofs.YtkgieciamophkaaDoor
open Go.RowKit

theorem conv_later {w : World} {v : Value} {l : List UInt8} (h : RB w (fun _ => True) v l) : ∀ W, Ex (fun _ => False) w W → (convert 23 9 v).run Tryd.prog W = .ok (.string (bs l)) W :=
  fun _ hx => (h.keep hx (fun _ _ _ => id)).str 23 9 5 Tryd.underlying23 Tryd.underlying5 Tryd.underlying9

theorem wpAnyH_strong {Pr : Program} {md : Region.Mode} {ops : Array Oper} {Q : Exit → Act → World → Prop} {S S' : World → Prop} (hs : ∀ w, S' w → S w) :
    ∀ (fuel : Nat) (listed : Array Bool) (a : Act) (w : World), wpAnyH Pr md ops Q S' fuel listed a w → wpAnyH Pr md ops Q S fuel listed a w
  | 0, _, _, _, h => h
  | fuel + 1, _, _, _, h => ⟨h.1, fun i hi => wpOp_mono (fun a' w' h' => ⟨hs _ h'.1, wpAnyH_strong hs fuel _ a' w' h'.2⟩) (h.2 i hi)⟩


theorem RD.lt {w : World} {p g o : Nat} {l : List UInt8} (h : RD w p g o l) : p < w.heap.size := by
  obtain ⟨A, c, h, _⟩ := h
  exact World.block_lt_of_cell? w _ h
theorem RD.ltg {w : World} {p g o : Nat} {l : List UInt8} (h : RD w p g o l) (hl : 0 < l.length) : g < w.heap.size := by
  obtain ⟨A, c, _, _, _, _, _, _, _, h⟩ := h
  exact World.block_lt_of_cell? w _ (h 0 hl).2
theorem by8_nat (b : UInt8) : by8 (b.toNat : Int) = b := by8_u8 b
theorem txt4_nb (a b c d : UInt8) : txt ((nb [a, b, c, d] : Nat) : Int) 4 = [a, b, c, d] := by
  have ha := a.toNat_lt; have hb := b.toNat_lt; have hc := c.toNat_lt; have hd := d.toNat_lt
  have e : nb [a, b, c, d] = ((a.toNat * 256 + b.toNat) * 256 + c.toNat) * 256 + d.toNat := by simp [nb]
  rw [e]
  simp only [txt, List.nil_append, List.cons_append]
  have h : ∀ (x : Int) (y : UInt8), x % 256 = (y.toNat : Int) → by8 x = y := fun x y h => by rw [← by8_mod, h, by8_u8]
  rw [h _ a (by omega), h _ b (by omega), h _ c (by omega), h _ d (by omega)]
theorem txt2_nb (a b : UInt8) : txt ((nb [a, b] : Nat) : Int) 2 = [a, b] := by
  have ha := a.toNat_lt; have hb := b.toNat_lt
  have e : nb [a, b] = a.toNat * 256 + b.toNat := by simp [nb]
  rw [e]
  simp only [txt, List.nil_append, List.cons_append]
  have h : ∀ (x : Int) (y : UInt8), x % 256 = (y.toNat : Int) → by8 x = y := fun x y h => by rw [← by8_mod, h, by8_u8]
  rw [h _ a (by omega), h _ b (by omega)]
theorem txt1_nb (a : UInt8) : txt ((nb [a] : Nat) : Int) 1 = [a] := by
  have e : nb [a] = a.toNat := by simp [nb]
  rw [e]
  simp only [txt, List.nil_append]
  rw [by8_u8]
theorem writer_step {w w' : World} {pw B : Nat} {q : Option Nat} {l : List UInt8} (hq : ∀ k, q = some k → B ≤ k) (hB : B ≤ w.heap.size) (h : WPost w pw q l w') :
    ∃ q', WR w' pw q' l ∧ (∀ k, q' = some k → B ≤ k) ∧ Ex (fun j => j = pw ∨ B ≤ j) w w' := by
  obtain ⟨q', h1, h2, h3⟩ := h
  refine ⟨q', h1, ?_, h3.mono (fun k _ h => ?_)⟩
  · rcases h2 with rfl | ⟨k, rfl, hk⟩
    · exact hq
    · intro j hj; obtain rfl := Option.some.inj hj; omega
  · rcases h with h | h
    · exact .inl h
    · exact .inr (hq k h)
end Go.Proofs.YtkgieciamophkaaDoor
