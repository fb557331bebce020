/-
  The contracts of octets.Reader. By an AI agent.
-/
import Derived.Test.YtkgieciamophkaaDoorOct
namespace Go.Proofs.YtkgieciamophkaaDoor
open Go.RowKit

/-- the reader at block p has l left, that lies in block g from o on -/
def RD (w : World) (p g o : Nat) (l : List UInt8) : Prop :=
  ∃ A c, w.cell? ⟨p, 0, none⟩ = some (.slice A l.length c) ∧ w.frozen? ⟨p, 0, none⟩ = false ∧ l.length ≤ c ∧ l.length ≤ 1000000000 ∧ g ≠ p ∧ (A = none → l = []) ∧
    (∀ b, A = some b → b.spot = none) ∧ ∀ i (h : i < l.length), A = some ⟨g, o, none⟩ ∧ w.cell? ⟨g, o + i, none⟩ = some (.int .u8 (l[i].toNat : Int))
theorem RD.keep {w w' : World} {S : Nat → Prop} {p g o : Nat} {l : List UInt8} (h : RD w p g o l) (hx : Ex S w w') (hp : ¬ S p) (hg : l ≠ [] → ¬ S g) : RD w' p g o l := by
  obtain ⟨A, c, h1, h2, h3, h4, h5, h6, h7, h8⟩ := h
  exact ⟨A, c, hx.cell h1 hp, (hx.frozen (World.block_lt_of_cell? w _ h1) hp).trans h2, h3, h4, h5, h6, h7, fun i hi => ⟨(h8 i hi).1, hx.cell (h8 i hi).2 (hg (by intro e; subst e; simp at hi))⟩⟩

theorem nil_is (w : World) : (binOp .eql 23 (.slice none 0 0) (.slice none 0 0)).run Tryd.prog w = .ok (.bool true) w := by kernel_rfl
theorem nil_not (a : Addr) (n c : Nat) (w : World) : (binOp .eql 23 (.slice (some a) n c) (.slice none 0 0)).run Tryd.prog w = .ok (.bool false) w := by kernel_rfl

set_option maxRecDepth 100000 in
/-- slices.Clone of bytes -/
theorem clone_any (P : Nat → Prop) (A : Option Addr) (n c : Nat) (l : List UInt8) (w : World) (hr : RB w P (.slice A n c) l) (hA : A = none → c = 0) (hl : l.length ≤ 1000000000) :
    Calls Tryd.prog 41 #[.slice A n c] w fun e w' => ∃ A' c', e = .returned (.slice A' l.length c') ∧ OB w' w.heap.size (.slice A' l.length c') l ∧ Ex (fun _ => False) w w' := by
  obtain ⟨i0, hi, hz0, hz1, hz2⟩ := info_parts Tryd.info5
  have hr0 := hr
  obtain ⟨_, A', c', e, hc, hcell⟩ := hr
  injection e with e1 e2 e3
  subst e1 e2 e3
  cases A with
  | none =>
    have : l = [] := by
      cases l with
      | nil => rfl
      | cons x r => obtain ⟨b, off, e, _⟩ := hcell 0 (by simp); cases e
    subst this
    obtain rfl := hA rfl
    have q0 := nil_is
    clear hA hr0 hcell
    go_enter Tryd.func41, Tryd.ntmps41
    go_wp2_with fail
    go_ret
    exact ⟨none, 0, rfl, OB.nil w _, Ex.refl _ w⟩
  | some a =>
    have HR := Lib.hid hr0
    clear hr0 hcell hA
    have q1 := nil_not a l.length c
    go_enter Tryd.func41, Tryd.ntmps41
    go_wp2_with (at_builtin; refine wpList_append_ob i0 23 Tryd.underlying23 hi hz0 hz1 hz2 rfl (.tmp 5) (.tmp 6) rfl w.heap.size (.slice (some ⟨w.heap.size, 0, none⟩) 0 0) [] rfl _ (.slice (some a) l.length c) l rfl (OB.lit w w.heap.size [] (Nat.le_refl _) (by simp)) (HR.out.alloc _) ?c1 ?c2 ?_; (case c1 => simp; omega); (case c2 => simp); intro A c w1 ho hg hn hb)
    go_ret
    exact ⟨A, c, by simp, by simpa using ho, ((Ex.refl (fun _ => False) w).alloc _).grown hg (fun k hk => .inr (by obtain rfl := Option.some.inj hk; exact Nat.le_refl _))⟩

/-- octets.Read -/
theorem read_any (P : Nat → Prop) (A : Option Addr) (n c : Nat) (l : List UInt8) (w : World) (hr : RB w P (.slice A n c) l) (hA : A = none → c = 0) (hl : l.length ≤ 1000000000) :
    Calls Tryd.prog 16 #[.slice A n c] w fun e w' => ∃ p g, e = .returned (.pointer (some ⟨p, 0, none⟩)) ∧ RD w' p g 0 l ∧ w.heap.size ≤ p ∧ w.heap.size ≤ g ∧ Ex (fun _ => False) w w' := by
  go_enter Tryd.func16, Tryd.ntmps16
  go_wp2_with fail
  refine (clone_any P A n c l w hr hA hl).mono ?_
  rintro e w1 ⟨A', c', rfl, ho, hx⟩
  have HO := Lib.hid ho
  have HX := Lib.hid hx
  clear ho hx hr hA
  go_wp2_with fail
  go_ret
  have hsz := HX.out.size
  rcases Nat.eq_zero_or_pos l.length with h0 | h0
  · obtain rfl := List.length_eq_zero_iff.1 h0
    refine ⟨w1.heap.size, w.heap.size + w1.heap.size + 1, rfl, ⟨A', c', by simp, by simp, by simp, by simp, by omega, fun _ => rfl, ?_, fun i hi => by simp at hi⟩, hsz, by omega, HX.out.alloc _⟩
    rcases HO.out.2.2 with ⟨e, _⟩ | ⟨g, cap, cur, e, _⟩
    · injection e with e1; subst e1; intro b hb; cases hb
    · injection e with e1; subst e1; intro b hb; obtain rfl := Option.some.inj hb; rfl
  · obtain ⟨g, cap, e, hg1, hg2⟩ := HO.out.form h0
    injection e with e1 e2 e3
    subst e1
    have hlc := HO.out.rb.2
    obtain ⟨_, _, e, hlc, _⟩ := hlc
    injection e with e1 e2 e3
    subst e3
    exact ⟨w1.heap.size, g, rfl, ⟨some ⟨g, 0, none⟩, c', by simp, by simp, hlc, hl, by omega, (fun h => by cases h), (fun b hb => by obtain rfl := Option.some.inj hb; rfl), fun i hi => ⟨rfl, by rw [World.cell?_alloc_lt _ _ _ hg2, Nat.zero_add]; exact HO.out.cell i hi⟩⟩, hsz, hg1, HX.out.alloc _⟩

theorem left_any (p g o : Nat) (l : List UInt8) (w : World) (h : RD w p g o l) :
    Calls Tryd.prog 27 #[.pointer (some ⟨p, 0, none⟩)] w fun e w' => e = .returned (.int .i64 (l.length : Int)) ∧ w = w' := by
  obtain ⟨A, c, h1, h2, h3, h4, h5, h6, h7, h8⟩ := h
  clear h2 h6 h7 h8
  go_enter Tryd.func27, Tryd.ntmps27
  go_wp2
  go_ret
  exact ⟨rfl, rfl⟩

theorem rdone_any (p g o : Nat) (l : List UInt8) (w : World) (h : RD w p g o l) :
    Calls Tryd.prog 30 #[.pointer (some ⟨p, 0, none⟩)] w fun e w' => Ex (fun _ => False) w w' ∧ ((l = [] ∧ e = .returned .nilIface ∧ w = w') ∨ (l ≠ [] ∧ ∃ v, e = .returned v ∧ EC w' (fun j => j = w.heap.size) [lay1] v 3)) := by
  obtain ⟨A, c, h1, h2, h3, h4, h5, h6, h7, h8⟩ := h
  clear h2 h6 h7 h8
  by_cases h0 : 0 < l.length
  · go_enter Tryd.func30, Tryd.ntmps30
    go_wp2_with fail
    refine (wrong1_any 3 w).mono ?_
    rintro e w' ⟨v, rfl, he, hx⟩
    have HE := Lib.hid he
    have HX := Lib.hid hx
    clear he hx
    go_wp2_with fail
    go_ret
    exact ⟨HX.out, .inr ⟨by intro e; subst e; simp at h0, v, rfl, HE.out⟩⟩
  · obtain rfl : l = [] := List.length_eq_zero_iff.1 (by omega)
    go_enter Tryd.func30, Tryd.ntmps30
    go_wp2_with fail
    go_ret
    exact ⟨Ex.refl _ w, .inl ⟨trivial, rfl, rfl⟩⟩
end Go.Proofs.YtkgieciamophkaaDoor
