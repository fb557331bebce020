/-
  octets.Read, with what may be written over; numbers of bytes. By an AI agent.
-/
import Derived.Test.YtkgieciamophkaaDoorLem01
namespace Go.Proofs.YtkgieciamophkaaDoor
open Go.RowKit

/-- octets.Read -/
theorem read_anyF (P : Nat → Prop) (A : Option Addr) (n c : Nat) (l : List UInt8) (w : World) (hr : RB w P (.slice A n c) l) (hA : A = none → c = 0) (hl : l.length ≤ 1000000000) :
    Calls Tryd.prog 16 #[.slice A n c] w fun e w' => ∃ p g, e = .returned (.pointer (some ⟨p, 0, none⟩)) ∧ RD w' p g 0 l ∧ w.heap.size ≤ p ∧ w.heap.size ≤ g ∧ Ex (fun _ => False) w w' ∧ (0 < l.length → ∀ k, w'.frozen? ⟨g, k, none⟩ = false) := by
  go_enter Tryd.func16, Tryd.ntmps16
  go_wp2_with fail
  refine (clone_any P A n c l w hr hA hl).mono ?_
  rintro e w1 ⟨A', c', rfl, ho, hx⟩
  have HO := Lib.hid ho
  have HX := Lib.hid hx
  clear ho hx hr hA
  go_wp2_with fail
  go_ret
  have hsz := HX.out.size
  rcases Nat.eq_zero_or_pos l.length with h0 | h0
  · obtain rfl := List.length_eq_zero_iff.1 h0
    refine ⟨w1.heap.size, w.heap.size + w1.heap.size + 1, rfl, ⟨A', c', by simp, by simp, by simp, by simp, by omega, fun _ => rfl, ?_, fun i hi => by simp at hi⟩, hsz, by omega, HX.out.alloc _, fun h => by simp at h⟩
    rcases HO.out.2.2 with ⟨e, _⟩ | ⟨g, cap, cur, e, _⟩
    · injection e with e1; subst e1; intro b hb; cases hb
    · injection e with e1; subst e1; intro b hb; obtain rfl := Option.some.inj hb; rfl
  · obtain ⟨g, cap, e, hg1, hg2⟩ := HO.out.form h0
    have HO' := HO.out
    injection e with e1 e2 e3
    subst e1
    have hlc := HO.out.rb.2
    obtain ⟨_, _, e, hlc, _⟩ := hlc
    injection e with e1 e2 e3
    subst e3
    exact ⟨w1.heap.size, g, rfl, ⟨some ⟨g, 0, none⟩, c', by simp, by simp, hlc, hl, by omega, (fun h => by cases h), (fun b hb => by obtain rfl := Option.some.inj hb; rfl), fun i hi => ⟨rfl, by rw [World.cell?_alloc_lt _ _ _ hg2, Nat.zero_add]; exact HO.out.cell i hi⟩⟩, hsz, hg1, HX.out.alloc _, fun _ k => (((Ex.refl (fun _ => False) w1).alloc _).frozen (p := ⟨g, k, none⟩) hg2 id).trans (HO.out.frozen k)⟩
theorem RB.keepN2 {w w' : World} {P S : Nat → Prop} {v : Value} {l : List UInt8} (h : RB w P v l) (hx : Ex S w w') (hs : l ≠ [] → ∀ k, k < w.heap.size → P k → ¬ S k) : RB w' P v l := by
  by_cases hl : l = []
  · subst hl
    obtain ⟨h1, A, c, h2, h3, h4⟩ := h
    exact ⟨h1, A, c, h2, h3, fun i hi => by simp at hi⟩
  · exact h.keep hx (hs hl)
/-- what was taken may be written over -/
theorem RD.write {w : World} {p g o x : Nat} {l : List UInt8} (h : RD w p g o l) (hx : x < o) (u : Value) : RD (w.setCell ⟨g, x, none⟩ u) p g o l := by
  obtain ⟨A, c, h1, h2, h3, h4, h5, h6, h7, h8⟩ := h
  have hex : Ex (fun j => j = g) w (w.setCell ⟨g, x, none⟩ u) := (Ex.refl (fun j => j = g) w).setCell (p := ⟨g, x, none⟩) (.inl rfl) u
  refine ⟨A, c, hex.cell h1 (fun e => h5 e.symm), (hex.frozen (World.block_lt_of_cell? w _ h1) (fun e => h5 e.symm)).trans h2, h3, h4, h5, h6, h7, fun i hi => ⟨(h8 i hi).1, ?_⟩⟩
  rw [World.cell?_setCell_other]
  · exact (h8 i hi).2
  · intro e; injection e with _ e2; omega
theorem nb_snoc (l : List UInt8) (b : UInt8) : nb (l ++ [b]) = nb l * 256 + b.toNat := by simp [nb]
theorem txt_nb (l : List UInt8) : txt (nb l : Int) l.length = l := by
  induction hn : l.length generalizing l with
  | zero => rw [List.length_eq_zero_iff.1 hn]; rfl
  | succ n ih =>
    have hne : l ≠ [] := by intro e; subst e; simp at hn
    have hlen : l.dropLast.length = n := by simp [hn]
    obtain ⟨m, b, rfl⟩ : ∃ m b, l = m ++ [b] := ⟨l.dropLast, l.getLast hne, (List.dropLast_concat_getLast hne).symm⟩
    have hm : m.length = n := by simpa using hn
    rw [nb_snoc]
    have hb := b.toNat_lt
    show txt (((nb m * 256 + b.toNat : Nat) : Int) / 256) n ++ [by8 ((nb m * 256 + b.toNat : Nat) : Int)] = m ++ [b]
    rw [show ((nb m * 256 + b.toNat : Nat) : Int) / 256 = (nb m : Int) by omega, ih m hm]
    have h : ∀ (x : Int) (y : UInt8), x % 256 = (y.toNat : Int) → by8 x = y := fun x y h => by rw [← by8_mod, h, by8_u8]
    rw [h _ b (by omega)]
theorem txt_nb' (l : List UInt8) (n : Nat) (h : l.length = n) : txt (nb l : Int) n = l := by rw [← h]; exact txt_nb l
end Go.Proofs.YtkgieciamophkaaDoor
