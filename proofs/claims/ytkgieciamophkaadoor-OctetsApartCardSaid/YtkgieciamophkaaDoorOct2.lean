/-
  octets.Writer in a cell of an array: Bytes and Done. By an AI agent.
-/
import Derived.Test.YtkgieciamophkaaDoorLem01
namespace Go.Proofs.YtkgieciamophkaaDoor
open Go.RowKit

/-- the writer at cell o of block p has put l; its bytes lie in block q -/
def WA (w : World) (p o : Nat) (q : Option Nat) (l : List UInt8) : Prop :=
  ∃ v, w.cell? ⟨p, o, none⟩ = some v ∧ w.frozen? ⟨p, o, none⟩ = false ∧ OB w 0 v l ∧ v.ownBlock = q ∧ q ≠ some p
theorem WA.keep {w w' : World} {S : Nat → Prop} {p o : Nat} {q : Option Nat} {l : List UInt8} (h : WA w p o q l) (hx : Ex S w w') (hp : ¬ S p) (hq : ∀ k, q = some k → k < w.heap.size → ¬ S k) : WA w' p o q l := by
  obtain ⟨v, h1, h2, h3, h4, h5⟩ := h
  exact ⟨v, hx.cell h1 hp, (hx.frozen (World.block_lt_of_cell? w _ h1) hp).trans h2, h3.keep hx (fun k hk hl _ => hq k (h4 ▸ hk) hl), h4, h5⟩
theorem WA.lt {w : World} {p o : Nat} {q : Option Nat} {l : List UInt8} (h : WA w p o q l) : p < w.heap.size ∧ ∀ k, q = some k → k < w.heap.size := by
  obtain ⟨v, h1, h2, h3, h4, h5⟩ := h
  exact ⟨World.block_lt_of_cell? w _ h1, fun k hk => (h3.lt k (h4.trans hk)).2⟩
theorem WA.set {w : World} {p o x : Nat} {a : Addr} {q : Option Nat} {l : List UInt8} (u : Value) (h : WA w p o q l) (ha : a = ⟨p, x, none⟩) (hx : x ≠ o) : WA (w.setCell a u) p o q l := by
  subst ha
  obtain ⟨v, h1, h2, h3, h4, h5⟩ := h
  refine ⟨v, ?_, by rw [World.frozen?_setCell]; exact h2, h3.keep (S := fun j => j = p) ((Ex.refl (fun j => j = p) w).setCell (p := ⟨p, x, none⟩) (.inl rfl) u) (fun k hk _ _ e => h5 (by rw [← h4, hk, e])), h4, h5⟩
  rw [World.cell?_setCell_other]
  · exact h1
  · intro e; injection e with _ e2; exact hx e2
/-- what Bytes leaves -/
def WB (w : World) (p o : Nat) (q : Option Nat) (m : List UInt8) (w' : World) : Prop :=
  ∃ w1 u, w' = w1.setCell ⟨p, o, none⟩ u ∧ Ex (fun j => q = some j) w w1 ∧ w1.frozen? ⟨p, o, none⟩ = false ∧ (∃ v, w1.cell? ⟨p, o, none⟩ = some v) ∧ OB w1 0 u m ∧ (u.ownBlock = q ∨ u.ownBlock = some w.heap.size)

set_option maxHeartbeats 1000000 in
theorem wbytes_at (P : Nat → Prop) (p o : Nat) (q : Option Nat) (l r : List UInt8) (y : Value) (w : World) (h : WA w p o q l) (hr : RB w P y r) (hl : l.length + r.length ≤ 140737488355328) :
    Calls Tryd.prog 25 #[.pointer (some ⟨p, o, none⟩), y] w fun e w' => e = .returned (.pointer (some ⟨p, o, none⟩)) ∧ WB w p o q (l ++ r) w' := by
  obtain ⟨i0, hi, hz0, hz1, hz2⟩ := info_parts Tryd.info5
  obtain ⟨v, h1, h2, h3, h4, h5⟩ := h
  have H2 := Lib.hid h2
  have H4 := Lib.hid h4
  have H5 := Lib.hid h5
  have hlt := World.block_lt_of_cell? w _ h1
  clear h2 h4 h5
  go_enter Tryd.func25, Tryd.ntmps25
  go_wp2_with (at_builtin; refine wpList_append_ob i0 23 Tryd.underlying23 hi hz0 hz1 hz2 rfl (.tmp 9) (.tmp 10) rfl 0 v l rfl P y r rfl h3 hr hl (Nat.zero_le _) ?_; intro A c w1 ho hg hn hb; have hne : ∀ k, v.ownBlock = some k → k ≠ p := (fun k hk e => H5.out (by rw [← H4.out, hk, e])); have hx : Ex (fun j => v.ownBlock = some j) w w1 := (Ex.refl _ w).grown hg (fun k hk => .inl hk); have hc1 := hx.cell h1 (fun e => hne _ e rfl); have hf1 := (hx.frozen hlt (fun e => hne _ e rfl)).trans H2.out)
  go_ret
  have h4 := H4.out
  subst h4
  exact ⟨rfl, w1, _, rfl, hx, hf1, ⟨_, hc1⟩, by simpa using ho, hb⟩
theorem wdone_at (p o : Nat) (q : Option Nat) (l : List UInt8) (w : World) (h : WA w p o q l) (hl : l.length ≤ 1000000000) :
    Calls Tryd.prog 23 #[.pointer (some ⟨p, o, none⟩)] w fun e w' => ∃ A c, e = .returned (.slice (some A) l.length c) ∧ OB w' w.heap.size (.slice (some A) l.length c) l ∧ Ex (fun _ => False) w w' := by
  obtain ⟨i0, hi, hz0, hz1, hz2⟩ := info_parts Tryd.info5
  obtain ⟨v, h1, h2, h3, h4, h5⟩ := h
  have hlt := World.block_lt_of_cell? w _ h1
  have hc1 : (w.alloc (.cells #[] 5)).cell? ⟨p, o, none⟩ = some v := ((Ex.refl (fun _ => False) w).alloc _).cell h1 id
  clear h2 h4 h5
  go_enter Tryd.func23, Tryd.ntmps23
  go_wp2_with (at_builtin; refine wpList_append_ob i0 23 Tryd.underlying23 hi hz0 hz1 hz2 rfl (.tmp 3) (.tmp 7) rfl w.heap.size (.slice (some ⟨w.heap.size, 0, none⟩) 0 0) [] rfl _ v l rfl (OB.lit w w.heap.size [] (Nat.le_refl _) (by simp)) (h3.rb.alloc _) ?c1 ?c2 ?_; (case c1 => simp; omega); (case c2 => simp); intro A c w1 ho hg hn hb)
  go_ret
  have hx : Ex (fun _ => False) w w1 := ((Ex.refl _ w).alloc _).grown hg (fun k hk => .inr (by obtain rfl := Option.some.inj hk; exact Nat.le_refl _))
  cases A with
  | none => exact absurd (hn.1 rfl).1 (by simp)
  | some A => exact ⟨A, c, rfl, by simpa using ho, hx⟩

/-- two writers in block p, and what was put to each in block t -/
structure AP (w : World) (B p t : Nat) (q0 q1 : Option Nat) (l0 l1 : List UInt8) : Prop where
  w0 : WA w p 0 q0 l0
  w1 : WA w p 1 q1 l1
  s0 : w.cell? ⟨t, 0, none⟩ = some (.string (bs l0))
  s1 : w.cell? ⟨t, 1, none⟩ = some (.string (bs l1))
  f0 : w.frozen? ⟨t, 0, none⟩ = false
  f1 : w.frozen? ⟨t, 1, none⟩ = false
  apart : ∀ j, q0 = some j → q1 = some j → False
  g0 : ∀ j, q0 = some j → B ≤ j ∧ j ≠ t
  g1 : ∀ j, q1 = some j → B ≤ j ∧ j ≠ t
  pt : p ≠ t
  bp : B ≤ p
  bt : B ≤ t
theorem AP.keep {w w' : World} {B p t : Nat} {q0 q1 : Option Nat} {l0 l1 : List UInt8} (h : AP w B p t q0 q1 l0 l1) (hx : Ex (fun _ => False) w w') : AP w' B p t q0 q1 l0 l1 :=
  ⟨h.w0.keep hx id (fun _ _ _ => id), h.w1.keep hx id (fun _ _ _ => id), hx.cell h.s0 id, hx.cell h.s1 id, (hx.frozen (World.block_lt_of_cell? w _ h.s0) id).trans h.f0, (hx.frozen (World.block_lt_of_cell? w _ h.s1) id).trans h.f1, h.apart, h.g0, h.g1, h.pt, h.bp, h.bt⟩
theorem AP.put0 {w w' : World} {B p t : Nat} {q0 q1 : Option Nat} {l0 l1 m : List UInt8} (h : AP w B p t q0 q1 l0 l1) (hb : WB w p 0 q0 m w') (hB : B ≤ w.heap.size) :
    w'.cell? ⟨t, 0, none⟩ = some (.string (bs l0)) ∧ w'.frozen? ⟨t, 0, none⟩ = false ∧ Ex (fun j => B ≤ j) w w' ∧ ∀ w2, w2.heap = (w'.setCell ⟨t, 0, none⟩ (.string (bs m))).heap → ∃ q, AP w2 B p t q q1 m l1 := by
  obtain ⟨w1, u, rfl, hx, hf, ⟨v1, hv1⟩, ho, hu⟩ := hb
  have htl : t < w.heap.size := World.block_lt_of_cell? w _ h.s0
  have hpl := h.w0.lt.1
  have hqt : ¬ q0 = some t := fun e => (h.g0 t e).2 rfl
  have hqp : ¬ q0 = some p := by obtain ⟨_, _, _, _, _, h5⟩ := h.w0; exact h5
  have hqq : ∀ j, q1 = some j → ¬ q0 = some j := fun j e e' => h.apart j e' e
  have hup : u.ownBlock ≠ some p := by
    rcases hu with e | e
    · rw [e]; exact hqp
    · rw [e]; intro e'; obtain rfl := Option.some.inj e'; omega
  have hut : u.ownBlock ≠ some t := by
    rcases hu with e | e
    · rw [e]; exact hqt
    · rw [e]; intro e'; obtain rfl := Option.some.inj e'; omega
  have huz : ∀ j, q1 = some j → u.ownBlock ≠ some j := fun j hj => by
    rcases hu with e | e
    · rw [e]; exact hqq j hj
    · rw [e]; intro e'; obtain rfl := Option.some.inj e'
      have := h.w1.lt.2 _ hj; omega
  have hx1 : Ex (fun j => q0 = some j ∨ j = p) w (w1.setCell ⟨p, 0, none⟩ u) := (hx.mono (fun _ _ => .inl)).setCell (p := ⟨p, 0, none⟩) (.inl (.inr rfl)) u
  have hst : ¬ (q0 = some t ∨ t = p) := fun e => e.elim hqt (fun e => h.pt e.symm)
  refine ⟨hx1.cell h.s0 hst, (hx1.frozen (p := ⟨t, 0, none⟩) htl hst).trans h.f0, hx1.mono (fun k _ e => by rcases e with e | e; exact (h.g0 k e).1; exact e ▸ h.bp), fun w2 hw2 => ⟨u.ownBlock, ?_⟩⟩
  have hz1 := h.w1.keep hx hqp (fun k hk _ => hqq k hk)
  have hz2 := hz1.set (a := ⟨p, 0, none⟩) u rfl (by decide)
  have ho2 : WA (w1.setCell ⟨p, 0, none⟩ u) p 0 u.ownBlock m := ⟨u, World.cell?_setCell_same _ _ _ hv1, by rw [World.frozen?_setCell]; exact hf, ho.keep (S := fun j => j = p) ((Ex.refl (fun j => j = p) w1).setCell (p := ⟨p, 0, none⟩) (.inl rfl) u) (fun k hk _ _ e => hup (by rw [hk, e])), rfl, hup⟩
  have hx3 : Ex (fun j => j = t) (w1.setCell ⟨p, 0, none⟩ u) ((w1.setCell ⟨p, 0, none⟩ u).setCell ⟨t, 0, none⟩ (.string (bs m))) := (Ex.refl (fun j => j = t) _).setCell (p := ⟨t, 0, none⟩) (.inl rfl) _
  have ho3 := ho2.keep hx3 h.pt (fun k hk _ e => hut (by rw [hk, e]))
  have hz3 := hz2.keep hx3 h.pt (fun k hk _ e => (h.g1 k hk).2 e)
  have hso := hx1.cell h.s0 hst
  have hsz := hx1.cell h.s1 hst
  have hfo := (hx1.frozen (p := ⟨t, 0, none⟩) htl hst).trans h.f0
  have hfz := (hx1.frozen (p := ⟨t, 1, none⟩) htl hst).trans h.f1
  have so : ((w1.setCell ⟨p, 0, none⟩ u).setCell ⟨t, 0, none⟩ (.string (bs m))).cell? ⟨t, 0, none⟩ = some (.string (bs m)) := World.cell?_setCell_same _ _ _ hso
  have sz : ((w1.setCell ⟨p, 0, none⟩ u).setCell ⟨t, 0, none⟩ (.string (bs m))).cell? ⟨t, 1, none⟩ = some (.string (bs l1)) := by
    rw [World.cell?_setCell_other]
    · exact hsz
    · intro e; injection e with _ e2; exact absurd e2 (by decide)
  have fo : ((w1.setCell ⟨p, 0, none⟩ u).setCell ⟨t, 0, none⟩ (.string (bs m))).frozen? ⟨t, 0, none⟩ = false := by rw [World.frozen?_setCell]; exact hfo
  have fz : ((w1.setCell ⟨p, 0, none⟩ u).setCell ⟨t, 0, none⟩ (.string (bs m))).frozen? ⟨t, 1, none⟩ = false := by rw [World.frozen?_setCell]; exact hfz
  have gu : ∀ j, u.ownBlock = some j → B ≤ j ∧ j ≠ t := fun j hj => by
    refine ⟨?_, fun e => hut (by rw [hj, e])⟩
    rcases hu with e | e
    · exact (h.g0 j (e.symm.trans hj)).1
    · rw [e] at hj; obtain rfl := Option.some.inj hj; exact hB
  generalize (w1.setCell ⟨p, 0, none⟩ u).setCell ⟨t, 0, none⟩ (.string (bs m)) = w3 at hw2 ho3 hz3 so sz fo fz
  have hcell : ∀ a, w2.cell? a = w3.cell? a := fun a => World.cell?_of_block (by rw [hw2])
  have hfr : ∀ a, w2.frozen? a = w3.frozen? a := fun a => World.frozen?_of_block (by rw [hw2])
  have hwa : ∀ {o q l}, WA w3 p o q l → WA w2 p o q l := fun {o q l} hw => by
    obtain ⟨v, h1, h2, h3, h4, h5⟩ := hw
    refine ⟨v, (hcell _).trans h1, (hfr _).trans h2, ⟨h3.1, h3.2.1, ?_⟩, h4, h5⟩
    rcases h3.2.2 with hn | ⟨g, cap, cur, e, hb, hg, rest⟩
    · exact .inl hn
    · exact .inr ⟨g, cap, cur, e, hb, by rw [hw2]; exact hg, rest⟩
  exact ⟨hwa ho3, hwa hz3, (hcell _).trans so, (hcell _).trans sz, (hfr _).trans fo, (hfr _).trans fz, fun j e1 e2 => huz j e2 e1, gu, h.g1, h.pt, h.bp, h.bt⟩
theorem AP.put1 {w w' : World} {B p t : Nat} {q0 q1 : Option Nat} {l0 l1 m : List UInt8} (h : AP w B p t q0 q1 l0 l1) (hb : WB w p 1 q1 m w') (hB : B ≤ w.heap.size) :
    w'.cell? ⟨t, 1, none⟩ = some (.string (bs l1)) ∧ w'.frozen? ⟨t, 1, none⟩ = false ∧ Ex (fun j => B ≤ j) w w' ∧ ∀ w2, w2.heap = (w'.setCell ⟨t, 1, none⟩ (.string (bs m))).heap → ∃ q, AP w2 B p t q0 q l0 m := by
  obtain ⟨w1, u, rfl, hx, hf, ⟨v1, hv1⟩, ho, hu⟩ := hb
  have htl : t < w.heap.size := World.block_lt_of_cell? w _ h.s1
  have hpl := h.w1.lt.1
  have hqt : ¬ q1 = some t := fun e => (h.g1 t e).2 rfl
  have hqp : ¬ q1 = some p := by obtain ⟨_, _, _, _, _, h5⟩ := h.w1; exact h5
  have hqq : ∀ j, q0 = some j → ¬ q1 = some j := fun j e e' => h.apart j e e'
  have hup : u.ownBlock ≠ some p := by
    rcases hu with e | e
    · rw [e]; exact hqp
    · rw [e]; intro e'; obtain rfl := Option.some.inj e'; omega
  have hut : u.ownBlock ≠ some t := by
    rcases hu with e | e
    · rw [e]; exact hqt
    · rw [e]; intro e'; obtain rfl := Option.some.inj e'; omega
  have huz : ∀ j, q0 = some j → u.ownBlock ≠ some j := fun j hj => by
    rcases hu with e | e
    · rw [e]; exact hqq j hj
    · rw [e]; intro e'; obtain rfl := Option.some.inj e'
      have := h.w0.lt.2 _ hj; omega
  have hx1 : Ex (fun j => q1 = some j ∨ j = p) w (w1.setCell ⟨p, 1, none⟩ u) := (hx.mono (fun _ _ => .inl)).setCell (p := ⟨p, 1, none⟩) (.inl (.inr rfl)) u
  have hst : ¬ (q1 = some t ∨ t = p) := fun e => e.elim hqt (fun e => h.pt e.symm)
  refine ⟨hx1.cell h.s1 hst, (hx1.frozen (p := ⟨t, 1, none⟩) htl hst).trans h.f1, hx1.mono (fun k _ e => by rcases e with e | e; exact (h.g1 k e).1; exact e ▸ h.bp), fun w2 hw2 => ⟨u.ownBlock, ?_⟩⟩
  have hz1 := h.w0.keep hx hqp (fun k hk _ => hqq k hk)
  have hz2 := hz1.set (a := ⟨p, 1, none⟩) u rfl (by decide)
  have ho2 : WA (w1.setCell ⟨p, 1, none⟩ u) p 1 u.ownBlock m := ⟨u, World.cell?_setCell_same _ _ _ hv1, by rw [World.frozen?_setCell]; exact hf, ho.keep (S := fun j => j = p) ((Ex.refl (fun j => j = p) w1).setCell (p := ⟨p, 1, none⟩) (.inl rfl) u) (fun k hk _ _ e => hup (by rw [hk, e])), rfl, hup⟩
  have hx3 : Ex (fun j => j = t) (w1.setCell ⟨p, 1, none⟩ u) ((w1.setCell ⟨p, 1, none⟩ u).setCell ⟨t, 1, none⟩ (.string (bs m))) := (Ex.refl (fun j => j = t) _).setCell (p := ⟨t, 1, none⟩) (.inl rfl) _
  have ho3 := ho2.keep hx3 h.pt (fun k hk _ e => hut (by rw [hk, e]))
  have hz3 := hz2.keep hx3 h.pt (fun k hk _ e => (h.g0 k hk).2 e)
  have hso := hx1.cell h.s1 hst
  have hsz := hx1.cell h.s0 hst
  have hfo := (hx1.frozen (p := ⟨t, 1, none⟩) htl hst).trans h.f1
  have hfz := (hx1.frozen (p := ⟨t, 0, none⟩) htl hst).trans h.f0
  have so : ((w1.setCell ⟨p, 1, none⟩ u).setCell ⟨t, 1, none⟩ (.string (bs m))).cell? ⟨t, 1, none⟩ = some (.string (bs m)) := World.cell?_setCell_same _ _ _ hso
  have sz : ((w1.setCell ⟨p, 1, none⟩ u).setCell ⟨t, 1, none⟩ (.string (bs m))).cell? ⟨t, 0, none⟩ = some (.string (bs l0)) := by
    rw [World.cell?_setCell_other]
    · exact hsz
    · intro e; injection e with _ e2; exact absurd e2 (by decide)
  have fo : ((w1.setCell ⟨p, 1, none⟩ u).setCell ⟨t, 1, none⟩ (.string (bs m))).frozen? ⟨t, 1, none⟩ = false := by rw [World.frozen?_setCell]; exact hfo
  have fz : ((w1.setCell ⟨p, 1, none⟩ u).setCell ⟨t, 1, none⟩ (.string (bs m))).frozen? ⟨t, 0, none⟩ = false := by rw [World.frozen?_setCell]; exact hfz
  have gu : ∀ j, u.ownBlock = some j → B ≤ j ∧ j ≠ t := fun j hj => by
    refine ⟨?_, fun e => hut (by rw [hj, e])⟩
    rcases hu with e | e
    · exact (h.g1 j (e.symm.trans hj)).1
    · rw [e] at hj; obtain rfl := Option.some.inj hj; exact hB
  generalize (w1.setCell ⟨p, 1, none⟩ u).setCell ⟨t, 1, none⟩ (.string (bs m)) = w3 at hw2 ho3 hz3 so sz fo fz
  have hcell : ∀ a, w2.cell? a = w3.cell? a := fun a => World.cell?_of_block (by rw [hw2])
  have hfr : ∀ a, w2.frozen? a = w3.frozen? a := fun a => World.frozen?_of_block (by rw [hw2])
  have hwa : ∀ {o q l}, WA w3 p o q l → WA w2 p o q l := fun {o q l} hw => by
    obtain ⟨v, h1, h2, h3, h4, h5⟩ := hw
    refine ⟨v, (hcell _).trans h1, (hfr _).trans h2, ⟨h3.1, h3.2.1, ?_⟩, h4, h5⟩
    rcases h3.2.2 with hn | ⟨g, cap, cur, e, hb, hg, rest⟩
    · exact .inl hn
    · exact .inr ⟨g, cap, cur, e, hb, by rw [hw2]; exact hg, rest⟩
  exact ⟨hwa hz3, hwa ho3, (hcell _).trans sz, (hcell _).trans so, (hfr _).trans fz, (hfr _).trans fo, fun j e1 e2 => huz j e1 e2, h.g0, gu, h.pt, h.bp, h.bt⟩
theorem AP.keepQ {w w' : World} {S : Nat → Prop} {B p t : Nat} {q0 q1 : Option Nat} {l0 l1 : List UInt8} (h : AP w B p t q0 q1 l0 l1) (hx : Ex S w w') (hp : ¬ S p) (ht : ¬ S t) (h0 : ∀ k, q0 = some k → ¬ S k) (h1 : ∀ k, q1 = some k → ¬ S k) : AP w' B p t q0 q1 l0 l1 :=
  ⟨h.w0.keep hx hp (fun k hk _ => h0 k hk), h.w1.keep hx hp (fun k hk _ => h1 k hk), hx.cell h.s0 ht, hx.cell h.s1 ht, (hx.frozen (World.block_lt_of_cell? w _ h.s0) ht).trans h.f0, (hx.frozen (World.block_lt_of_cell? w _ h.s1) ht).trans h.f1, h.apart, h.g0, h.g1, h.pt, h.bp, h.bt⟩
theorem RB.keepN {w w' : World} {P S : Nat → Prop} {v : Value} {l : List UInt8} (h : RB w P v l) (hx : Ex S w w') (hs : l ≠ [] → ∀ k, k < w.heap.size → P k → ¬ S k) : RB w' P v l := by
  by_cases hl : l = []
  · subst hl
    obtain ⟨h1, A, c, h2, h3, h4⟩ := h
    exact ⟨h1, A, c, h2, h3, fun i hi => by simp at hi⟩
  · exact h.keep hx (hs hl)
theorem AP.zero (w1 : World) (B : Nat) (hB : B ≤ w1.heap.size) (t1 t2 : TypeId) :
    AP ((w1.alloc (.cells #[.slice none 0 0, .slice none 0 0] t1)).alloc (.cells #[.string ⟨#[]⟩, .string ⟨#[]⟩] t2)) B w1.heap.size (w1.heap.size + 1) none none [] [] := by
  have hx : Ex (fun _ => False) (w1.alloc (.cells #[.slice none 0 0, .slice none 0 0] t1)) ((w1.alloc (.cells #[.slice none 0 0, .slice none 0 0] t1)).alloc (.cells #[.string ⟨#[]⟩, .string ⟨#[]⟩] t2)) := (Ex.refl _ _).alloc _
  have h0 : WA (w1.alloc (.cells #[.slice none 0 0, .slice none 0 0] t1)) w1.heap.size 0 none [] := ⟨.slice none 0 0, by rw [World.cell?_alloc_at _ _ _ _ rfl]; rfl, by simp, OB.nil _ _, rfl, by simp⟩
  have h1 : WA (w1.alloc (.cells #[.slice none 0 0, .slice none 0 0] t1)) w1.heap.size 1 none [] := ⟨.slice none 0 0, by rw [World.cell?_alloc_at _ _ _ _ rfl]; rfl, by simp, OB.nil _ _, rfl, by simp⟩
  have hs : w1.heap.size + 1 = (w1.alloc (.cells #[.slice none 0 0, .slice none 0 0] t1)).heap.size := by simp
  refine ⟨h0.keep hx id (fun _ h _ => by cases h), h1.keep hx id (fun _ h _ => by cases h), ?_, ?_, ?_, ?_, (fun _ h => by cases h), (fun _ h => by cases h), (fun _ h => by cases h), by omega, hB, by omega⟩
  · rw [hs, World.cell?_alloc_at _ _ _ _ rfl]; rfl
  · rw [hs, World.cell?_alloc_at _ _ _ _ rfl]; rfl
  · rw [hs]; simp
  · rw [hs]; simp
end Go.Proofs.YtkgieciamophkaaDoor
