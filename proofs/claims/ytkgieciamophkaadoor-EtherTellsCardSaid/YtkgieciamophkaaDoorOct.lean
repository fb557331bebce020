/-
  The contracts of octets.Writer. By an AI agent.
-/
import Derived.Test.YtkgieciamophkaaDoorErrs
import Derived.WalkKit
import Derived.Deep.Cut
namespace Go.Proofs.YtkgieciamophkaaDoor
open Go.RowKit

theorem Tryd.info5 : (Tryd.prog.info? 5).map (fun i => (i.zero, i.size, i.bytes)) = some (some (.int .u8 0), 1, 1) := by kernel_rfl
theorem info_parts {a : Option TypeInfo} {z : Value} {s b : Nat} (h : a.map (fun i => (i.zero, i.size, i.bytes)) = some (some z, s, b)) : ∃ i, a = some i ∧ i.zero = some z ∧ i.size = s ∧ i.bytes = b := by
  cases a with
  | none => simp at h
  | some i => simp at h; exact ⟨i, rfl, h.1, h.2.1, h.2.2⟩

/-- the writer at block p has put l; its bytes lie in block q -/
def WR (w : World) (p : Nat) (q : Option Nat) (l : List UInt8) : Prop :=
  ∃ v, w.cell? ⟨p, 0, none⟩ = some v ∧ w.frozen? ⟨p, 0, none⟩ = false ∧ OB w 0 v l ∧ v.ownBlock = q ∧ q ≠ some p
theorem WR.keep {w w' : World} {S : Nat → Prop} {p : Nat} {q : Option Nat} {l : List UInt8} (h : WR w p q l) (hx : Ex S w w') (hp : ¬ S p) (hq : ∀ k, q = some k → k < w.heap.size → ¬ S k) : WR w' p q l := by
  obtain ⟨v, h1, h2, h3, h4, h5⟩ := h
  exact ⟨v, hx.cell h1 hp, (hx.frozen (World.block_lt_of_cell? w _ h1) hp).trans h2, h3.keep hx (fun k hk hl _ => hq k (h4 ▸ hk) hl), h4, h5⟩
/-- what a call on the writer leaves -/
def WPost (w : World) (p : Nat) (q : Option Nat) (l : List UInt8) (w' : World) : Prop :=
  ∃ q', WR w' p q' l ∧ (q' = q ∨ ∃ k, q' = some k ∧ w.heap.size ≤ k) ∧ Ex (fun j => j = p ∨ q = some j) w w'
theorem WPost.trans {w w1 w2 : World} {p : Nat} {q q1 : Option Nat} {l2 : List UInt8} (hq : q1 = q ∨ ∃ k, q1 = some k ∧ w.heap.size ≤ k) (hx : Ex (fun j => j = p ∨ q = some j) w w1) (h : WPost w1 p q1 l2 w2) : WPost w p q l2 w2 := by
  obtain ⟨q2, h1, h2, h3⟩ := h
  refine ⟨q2, h1, ?_, hx.andThen h3 (fun i hi hj => ?_)⟩
  · rcases h2 with rfl | ⟨k, rfl, hk⟩
    · exact hq
    · exact .inr ⟨k, rfl, Nat.le_trans hx.size hk⟩
  · rcases hj with rfl | hj
    · exact .inl rfl
    · rcases hq with rfl | ⟨k, rfl, hk⟩
      · exact .inr hj
      · obtain rfl := Option.some.inj hj; omega

theorem WPost.made {w w1 : World} {p g : Nat} {q : Option Nat} {v u : Value} {m : List UInt8} (h4 : v.ownBlock = q) (h5 : q ≠ some p) (hlt : p < w.heap.size) (hx : Ex (fun j => v.ownBlock = some j) w w1)
    (hc1 : w1.cell? ⟨p, 0, none⟩ = some v) (hf1 : w1.frozen? ⟨p, 0, none⟩ = false) (ho : OB w1 0 u m) (hb : u.ownBlock = v.ownBlock ∨ u.ownBlock = some g) (hg : w.heap.size ≤ g) :
    WPost w p q m (w1.setCell ⟨p, 0, none⟩ u) := by
  subst h4
  have hne : u.ownBlock ≠ some p := by
    rcases hb with e | e
    · rw [e]; exact h5
    · rw [e]; intro h; obtain rfl := Option.some.inj h; omega
  refine ⟨u.ownBlock, ⟨u, World.cell?_setCell_same _ _ _ hc1, by rw [World.frozen?_setCell]; exact hf1, ho.keep (S := fun j => j = p) ((Ex.refl (fun j => j = p) w1).setCell (p := ⟨p, 0, none⟩) (.inl rfl) u) (fun k hk _ _ e => hne (by rw [hk, e])), rfl, hne⟩, ?_, (hx.mono (fun k _ h => .inr h)).setCell (p := ⟨p, 0, none⟩) (.inl (.inl rfl)) u⟩
  rcases hb with e | e
  · exact .inl e
  · exact .inr ⟨g, e, hg⟩

set_option maxHeartbeats 1000000 in
theorem wbytes_any (P : Nat → Prop) (p : Nat) (q : Option Nat) (l r : List UInt8) (y : Value) (w : World) (h : WR w p q l) (hr : RB w P y r) (hl : l.length + r.length ≤ 140737488355328) :
    Calls Tryd.prog 25 #[.pointer (some ⟨p, 0, none⟩), y] w fun e w' => e = .returned (.pointer (some ⟨p, 0, none⟩)) ∧ WPost w p q (l ++ r) w' := by
  obtain ⟨i0, hi, hz0, hz1, hz2⟩ := info_parts Tryd.info5
  obtain ⟨v, h1, h2, h3, h4, h5⟩ := h
  have H2 := Lib.hid h2
  have H4 := Lib.hid h4
  have H5 := Lib.hid h5
  have hlt := World.block_lt_of_cell? w _ h1
  clear h2 h4 h5
  go_enter Tryd.func25, Tryd.ntmps25
  go_wp2_with (at_builtin; refine wpList_append_ob i0 23 Tryd.underlying23 hi hz0 hz1 hz2 rfl (.tmp 9) (.tmp 10) rfl 0 v l rfl P y r rfl h3 hr hl (Nat.zero_le _) ?_; intro A c w1 ho hg hn hb; have hne : ∀ k, v.ownBlock = some k → k ≠ p := (fun k hk e => H5.out (by rw [← H4.out, hk, e])); have hx : Ex (fun j => v.ownBlock = some j) w w1 := (Ex.refl _ w).grown hg (fun k hk => .inl hk); have hc1 := hx.cell h1 (fun e => hne _ e rfl); have hf1 := (hx.frozen hlt (fun e => hne _ e rfl)).trans H2.out)
  go_ret
  exact ⟨rfl, WPost.made H4.out H5.out hlt hx hc1 hf1 (by simpa using ho) hb (Nat.le_refl _)⟩

/-- the last bytes of a number, the highest first -/
def txt (n : Int) : Nat → List UInt8
  | 0 => []
  | k + 1 => txt (n / 256) k ++ [by8 n]
theorem txt_len (k : Nat) : ∀ n, (txt n k).length = k := by
  induction k with
  | zero => intro n; rfl
  | succ k ih => intro n; simp [txt, ih]

set_option maxRecDepth 100000 in
set_option maxHeartbeats 1000000 in
theorem put1_any (p : Nat) (q : Option Nat) (l : List UInt8) (n : Int) (w : World) (_h0 : 0 ≤ n) (_hn : n < 4294967296) (h : WR w p q l) (hl : l.length ≤ 1000000000) :
    Calls Tryd.prog 45 #[.pointer (some ⟨p, 0, none⟩), .int .u32 n, .int .i64 1] w fun e w' => e = .returned (.pointer (some ⟨p, 0, none⟩)) ∧ WPost w p q (l ++ txt n 1) w' := by
  obtain ⟨i0, hi, hz0, hz1, hz2⟩ := info_parts Tryd.info5
  obtain ⟨v, h1, h2, h3, h4, h5⟩ := h
  have H2 := Lib.hid h2
  have H4 := Lib.hid h4
  have H5 := Lib.hid h5
  have hlt := World.block_lt_of_cell? w _ h1
  clear h2 h4 h5
  go_enter Tryd.func45, Tryd.ntmps45
  go_wp2_with (at_builtin; refine wpList_append_ob i0 23 Tryd.underlying23 hi hz0 hz1 hz2 rfl (.tmp 45) (.tmp 48) rfl 0 v l rfl (fun k => k = w.heap.size) (.slice (some ⟨w.heap.size, 0, none⟩) 1 1) [by8 n] rfl (h3.alloc _) (RB.made w [by8 n] _ _ ?c1 ?c2 1 1 rfl (Nat.le_refl _) rfl) ?c3 (Nat.zero_le _) ?_; (case c1 => simp [u8v_by8]); (case c2 => simp); (case c3 => simp; omega); intro A c w1 ho hg hn hb; have hne : ∀ k, v.ownBlock = some k → k ≠ p := (fun k hk e => H5.out (by rw [← H4.out, hk, e])); have hx : Ex (fun j => v.ownBlock = some j) w w1 := ((Ex.refl _ w).alloc _).grown hg (fun k hk => .inl hk); have hc1 := hx.cell h1 (fun e => hne _ e rfl); have hf1 := (hx.frozen hlt (fun e => hne _ e rfl)).trans H2.out)
  go_ret
  exact ⟨rfl, WPost.made (m := l ++ txt n 1) H4.out H5.out hlt hx hc1 hf1 (by simpa [txt] using ho) hb (by simp)⟩
set_option maxRecDepth 100000 in
set_option maxHeartbeats 1000000 in
theorem put2_any (p : Nat) (q : Option Nat) (l : List UInt8) (n : Int) (w : World) (_h0 : 0 ≤ n) (_hn : n < 4294967296) (h : WR w p q l) (hl : l.length ≤ 1000000000) :
    Calls Tryd.prog 45 #[.pointer (some ⟨p, 0, none⟩), .int .u32 n, .int .i64 2] w fun e w' => e = .returned (.pointer (some ⟨p, 0, none⟩)) ∧ WPost w p q (l ++ txt n 2) w' := by
  obtain ⟨i0, hi, hz0, hz1, hz2⟩ := info_parts Tryd.info5
  obtain ⟨v0, h01, h02, h03, h04, h05⟩ := h
  have H02 := Lib.hid h02
  have H04 := Lib.hid h04
  have H05 := Lib.hid h05
  have hl0 := World.block_lt_of_cell? w _ h01
  clear h02 h04 h05
  go_enter Tryd.func45, Tryd.ntmps45
  go_upto_region 7 with (at_builtin; refine wpList_append_ob i0 23 Tryd.underlying23 hi hz0 hz1 hz2 rfl (.tmp 33) (.tmp 37) rfl 0 v0 l rfl (fun k => k = w.heap.size) (.slice (some ⟨w.heap.size, 0, none⟩) 1 1) [by8 (n / 256)] rfl (h03.alloc _) (RB.made w [by8 (n / 256)] _ _ ?c01 ?c02 1 1 rfl (Nat.le_refl _) rfl) ?c03 (Nat.zero_le _) ?_; (case c01 => simp [u8v_by8]); (case c02 => simp); (case c03 => simp; omega); intro A0 c0 w10 ho0 hg0 hn0 hb0; have hne : ∀ k, v0.ownBlock = some k → k ≠ p := (fun k hk e => H05.out (by rw [← H04.out, hk, e])); have hx0 : Ex (fun j => v0.ownBlock = some j) w w10 := ((Ex.refl _ w).alloc _).grown hg0 (fun k hk => .inl hk); have hc0 := hx0.cell h01 (fun e => hne _ e rfl); have hf0 := (hx0.frozen hl0 (fun e => hne _ e rfl)).trans H02.out)
  obtain ⟨q0, hw0, hq0, hxx0⟩ := WPost.made (m := l ++ [by8 (n / 256)]) H04.out H05.out hl0 hx0 hc0 hf0 (by simpa using ho0) hb0 (by simp)
  have HQ0 := Lib.hid hq0
  have HX0 := Lib.hid hxx0
  obtain ⟨l0, hl0', hm0⟩ : ∃ l1, Hid (l ++ [by8 (n / 256)] = l1) ∧ l1.length ≤ 1000000010 := ⟨_, rfl, by simp; omega⟩
  rw [hl0'.out] at hw0
  generalize w10.setCell ⟨p, 0, none⟩ _ = W0 at hw0 HX0 ⊢
  clear hq0 hxx0 h01 h03 hn0 hb0 hx0 hc0 hf0 ho0 hg0 hne
  obtain ⟨v1, h11, h12, h13, h14, h15⟩ := hw0
  have H12 := Lib.hid h12
  have H14 := Lib.hid h14
  have H15 := Lib.hid h15
  have hl1 := World.block_lt_of_cell? W0 _ h11
  clear h12 h14 h15
  go_wp2_with (at_builtin; refine wpList_append_ob i0 23 Tryd.underlying23 hi hz0 hz1 hz2 rfl (.tmp 45) (.tmp 48) rfl 0 v1 l0 rfl (fun k => k = W0.heap.size) (.slice (some ⟨W0.heap.size, 0, none⟩) 1 1) [by8 n] rfl (h13.alloc _) (RB.made W0 [by8 n] _ _ ?c11 ?c12 1 1 rfl (Nat.le_refl _) rfl) ?c13 (Nat.zero_le _) ?_; (case c11 => simp [u8v_by8]); (case c12 => simp); (case c13 => simp; omega); intro A1 c1 w11 ho1 hg1 hn1 hb1; have hne : ∀ k, v1.ownBlock = some k → k ≠ p := (fun k hk e => H15.out (by rw [← H14.out, hk, e])); have hx1 : Ex (fun j => v1.ownBlock = some j) W0 w11 := ((Ex.refl _ W0).alloc _).grown hg1 (fun k hk => .inl hk); have hc1 := hx1.cell h11 (fun e => hne _ e rfl); have hf1 := (hx1.frozen hl1 (fun e => hne _ e rfl)).trans H12.out)
  go_ret
  have hfin := WPost.made (m := l0 ++ [by8 n]) H14.out H15.out hl1 hx1 hc1 hf1 (by simpa using ho1) hb1 (by simp)
  have hfin := WPost.trans HQ0.out HX0.out hfin
  have e : l ++ txt n 2 = l0 ++ [by8 n] := by
    rw [← hl0'.out]
    simp [txt]
  rw [e]
  exact ⟨rfl, hfin⟩
set_option maxRecDepth 100000 in
set_option maxHeartbeats 1000000 in
theorem put4_any (p : Nat) (q : Option Nat) (l : List UInt8) (n : Int) (w : World) (h0 : 0 ≤ n) (hn : n < 4294967296) (h : WR w p q l) (hl : l.length ≤ 1000000000) :
    Calls Tryd.prog 45 #[.pointer (some ⟨p, 0, none⟩), .int .u32 n, .int .i64 4] w fun e w' => e = .returned (.pointer (some ⟨p, 0, none⟩)) ∧ WPost w p q (l ++ txt n 4) w' := by
  obtain ⟨i0, hi, hz0, hz1, hz2⟩ := info_parts Tryd.info5
  obtain ⟨v0, h01, h02, h03, h04, h05⟩ := h
  have H02 := Lib.hid h02
  have H04 := Lib.hid h04
  have H05 := Lib.hid h05
  have hl0 := World.block_lt_of_cell? w _ h01
  clear h02 h04 h05
  go_enter Tryd.func45, Tryd.ntmps45
  go_upto_region 6 with (at_builtin; refine wpList_append_ob i0 23 Tryd.underlying23 hi hz0 hz1 hz2 rfl (.tmp 18) (.tmp 25) rfl 0 v0 l rfl (fun k => k = w.heap.size) (.slice (some ⟨w.heap.size, 0, none⟩) 2 2) [by8 (n / 16777216), by8 (n / 65536)] rfl (h03.alloc _) (RB.made w [by8 (n / 16777216), by8 (n / 65536)] _ _ ?c01 ?c02 2 2 rfl (Nat.le_refl _) rfl) ?c03 (Nat.zero_le _) ?_; (case c01 => simp [u8v_by8]; omega); (case c02 => simp); (case c03 => simp; omega); intro A0 c0 w10 ho0 hg0 hn0 hb0; have hne : ∀ k, v0.ownBlock = some k → k ≠ p := (fun k hk e => H05.out (by rw [← H04.out, hk, e])); have hx0 : Ex (fun j => v0.ownBlock = some j) w w10 := ((Ex.refl _ w).alloc _).grown hg0 (fun k hk => .inl hk); have hc0 := hx0.cell h01 (fun e => hne _ e rfl); have hf0 := (hx0.frozen hl0 (fun e => hne _ e rfl)).trans H02.out)
  obtain ⟨q0, hw0, hq0, hxx0⟩ := WPost.made (m := l ++ [by8 (n / 16777216), by8 (n / 65536)]) H04.out H05.out hl0 hx0 hc0 hf0 (by simpa using ho0) hb0 (by simp)
  have HQ0 := Lib.hid hq0
  have HX0 := Lib.hid hxx0
  obtain ⟨l0, hl0', hm0⟩ : ∃ l1, Hid (l ++ [by8 (n / 16777216), by8 (n / 65536)] = l1) ∧ l1.length ≤ 1000000010 := ⟨_, rfl, by simp; omega⟩
  rw [hl0'.out] at hw0
  generalize w10.setCell ⟨p, 0, none⟩ _ = W0 at hw0 HX0 ⊢
  clear hq0 hxx0 h01 h03 hn0 hb0 hx0 hc0 hf0 ho0 hg0 hne
  obtain ⟨v1, h11, h12, h13, h14, h15⟩ := hw0
  have H12 := Lib.hid h12
  have H14 := Lib.hid h14
  have H15 := Lib.hid h15
  have hl1 := World.block_lt_of_cell? W0 _ h11
  clear h12 h14 h15
  go_upto_region 7 with (at_builtin; refine wpList_append_ob i0 23 Tryd.underlying23 hi hz0 hz1 hz2 rfl (.tmp 33) (.tmp 37) rfl 0 v1 l0 rfl (fun k => k = W0.heap.size) (.slice (some ⟨W0.heap.size, 0, none⟩) 1 1) [by8 (n / 256)] rfl (h13.alloc _) (RB.made W0 [by8 (n / 256)] _ _ ?c11 ?c12 1 1 rfl (Nat.le_refl _) rfl) ?c13 (Nat.zero_le _) ?_; (case c11 => simp [u8v_by8]); (case c12 => simp); (case c13 => simp; omega); intro A1 c1 w11 ho1 hg1 hn1 hb1; have hne : ∀ k, v1.ownBlock = some k → k ≠ p := (fun k hk e => H15.out (by rw [← H14.out, hk, e])); have hx1 : Ex (fun j => v1.ownBlock = some j) W0 w11 := ((Ex.refl _ W0).alloc _).grown hg1 (fun k hk => .inl hk); have hc1 := hx1.cell h11 (fun e => hne _ e rfl); have hf1 := (hx1.frozen hl1 (fun e => hne _ e rfl)).trans H12.out)
  obtain ⟨q1, hw1, hq1, hxx1⟩ := WPost.made (m := l0 ++ [by8 (n / 256)]) H14.out H15.out hl1 hx1 hc1 hf1 (by simpa using ho1) hb1 (by simp)
  have HQ1 := Lib.hid hq1
  have HX1 := Lib.hid hxx1
  obtain ⟨l1, hl1', hm1⟩ : ∃ l1, Hid (l0 ++ [by8 (n / 256)] = l1) ∧ l1.length ≤ 1000000020 := ⟨_, rfl, by simp; omega⟩
  rw [hl1'.out] at hw1
  generalize w11.setCell ⟨p, 0, none⟩ _ = W1 at hw1 HX1 ⊢
  clear hq1 hxx1 h11 h13 hn1 hb1 hx1 hc1 hf1 ho1 hg1 hne
  obtain ⟨v2, h21, h22, h23, h24, h25⟩ := hw1
  have H22 := Lib.hid h22
  have H24 := Lib.hid h24
  have H25 := Lib.hid h25
  have hl2 := World.block_lt_of_cell? W1 _ h21
  clear h22 h24 h25
  go_wp2_with (at_builtin; refine wpList_append_ob i0 23 Tryd.underlying23 hi hz0 hz1 hz2 rfl (.tmp 45) (.tmp 48) rfl 0 v2 l1 rfl (fun k => k = W1.heap.size) (.slice (some ⟨W1.heap.size, 0, none⟩) 1 1) [by8 n] rfl (h23.alloc _) (RB.made W1 [by8 n] _ _ ?c21 ?c22 1 1 rfl (Nat.le_refl _) rfl) ?c23 (Nat.zero_le _) ?_; (case c21 => simp [u8v_by8]); (case c22 => simp); (case c23 => simp; omega); intro A2 c2 w12 ho2 hg2 hn2 hb2; have hne : ∀ k, v2.ownBlock = some k → k ≠ p := (fun k hk e => H25.out (by rw [← H24.out, hk, e])); have hx2 : Ex (fun j => v2.ownBlock = some j) W1 w12 := ((Ex.refl _ W1).alloc _).grown hg2 (fun k hk => .inl hk); have hc2 := hx2.cell h21 (fun e => hne _ e rfl); have hf2 := (hx2.frozen hl2 (fun e => hne _ e rfl)).trans H22.out)
  go_ret
  have hfin := WPost.made (m := l1 ++ [by8 n]) H24.out H25.out hl2 hx2 hc2 hf2 (by simpa using ho2) hb2 (by simp)
  have hfin := WPost.trans HQ1.out HX1.out hfin
  have hfin := WPost.trans HQ0.out HX0.out hfin
  have e : l ++ txt n 4 = l1 ++ [by8 n] := by
    rw [← hl1'.out, ← hl0'.out]
    simp [txt]; refine ⟨congrArg by8 ?_, congrArg by8 ?_⟩ <;> omega
  rw [e]
  exact ⟨rfl, hfin⟩

theorem wu8_any (p : Nat) (q : Option Nat) (l : List UInt8) (n : Int) (w : World) (h0 : 0 ≤ n) (hn : n < 256) (h : WR w p q l) (hl : l.length ≤ 1000000000) :
    Calls Tryd.prog 22 #[.pointer (some ⟨p, 0, none⟩), .int .u8 n] w fun e w' => e = .returned (.pointer (some ⟨p, 0, none⟩)) ∧ WPost w p q (l ++ txt n 1) w' := by
  go_enter Tryd.func22, Tryd.ntmps22
  go_wp2_with fail
  refine (put1_any p q l n _ h0 (by omega) h hl).mono ?_
  rintro e w' ⟨rfl, h1⟩
  have H1 := Lib.hid h1
  clear h1
  go_wp2_with fail
  go_ret
  exact ⟨rfl, H1.out⟩

theorem wu16_any (p : Nat) (q : Option Nat) (l : List UInt8) (n : Int) (w : World) (h0 : 0 ≤ n) (hn : n < 65536) (h : WR w p q l) (hl : l.length ≤ 1000000000) :
    Calls Tryd.prog 21 #[.pointer (some ⟨p, 0, none⟩), .int .u16 n] w fun e w' => e = .returned (.pointer (some ⟨p, 0, none⟩)) ∧ WPost w p q (l ++ txt n 2) w' := by
  go_enter Tryd.func21, Tryd.ntmps21
  go_wp2_with fail
  refine (put2_any p q l n _ h0 (by omega) h hl).mono ?_
  rintro e w' ⟨rfl, h1⟩
  have H1 := Lib.hid h1
  clear h1
  go_wp2_with fail
  go_ret
  exact ⟨rfl, H1.out⟩

theorem wu32_any (p : Nat) (q : Option Nat) (l : List UInt8) (n : Int) (w : World) (h0 : 0 ≤ n) (hn : n < 4294967296) (h : WR w p q l) (hl : l.length ≤ 1000000000) :
    Calls Tryd.prog 20 #[.pointer (some ⟨p, 0, none⟩), .int .u32 n] w fun e w' => e = .returned (.pointer (some ⟨p, 0, none⟩)) ∧ WPost w p q (l ++ txt n 4) w' := by
  go_enter Tryd.func20, Tryd.ntmps20
  go_wp2_with fail
  refine (put4_any p q l n _ h0 (by omega) h hl).mono ?_
  rintro e w' ⟨rfl, h1⟩
  have H1 := Lib.hid h1
  clear h1
  go_wp2_with fail
  go_ret
  exact ⟨rfl, H1.out⟩

theorem wdone_any (p : Nat) (q : Option Nat) (l : List UInt8) (w : World) (h : WR w p q l) (hl : l.length ≤ 1000000000) :
    Calls Tryd.prog 23 #[.pointer (some ⟨p, 0, none⟩)] w fun e w' => ∃ A c, e = .returned (.slice (some A) l.length c) ∧ OB w' w.heap.size (.slice (some A) l.length c) l ∧ Ex (fun _ => False) w w' := by
  obtain ⟨i0, hi, hz0, hz1, hz2⟩ := info_parts Tryd.info5
  obtain ⟨v, h1, h2, h3, h4, h5⟩ := h
  have hlt := World.block_lt_of_cell? w _ h1
  have hc1 : (w.alloc (.cells #[] 5)).cell? ⟨p, 0, none⟩ = some v := ((Ex.refl (fun _ => False) w).alloc _).cell h1 id
  clear h2 h4 h5
  go_enter Tryd.func23, Tryd.ntmps23
  go_wp2_with (at_builtin; refine wpList_append_ob i0 23 Tryd.underlying23 hi hz0 hz1 hz2 rfl (.tmp 3) (.tmp 7) rfl w.heap.size (.slice (some ⟨w.heap.size, 0, none⟩) 0 0) [] rfl _ v l rfl (OB.lit w w.heap.size [] (Nat.le_refl _) (by simp)) (h3.rb.alloc _) ?c1 ?c2 ?_; (case c1 => simp; omega); (case c2 => simp); intro A c w1 ho hg hn hb)
  go_ret
  have hx : Ex (fun _ => False) w w1 := ((Ex.refl _ w).alloc _).grown hg (fun k hk => .inr (by obtain rfl := Option.some.inj hk; exact Nat.le_refl _))
  cases A with
  | none => exact absurd (hn.1 rfl).1 (by simp)
  | some A => exact ⟨A, c, rfl, by simpa using ho, hx⟩
end Go.Proofs.YtkgieciamophkaaDoor
