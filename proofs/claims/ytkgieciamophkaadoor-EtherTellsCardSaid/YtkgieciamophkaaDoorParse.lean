/-
  The contract of ether.Parse. By an AI agent.
-/
import Derived.Test.YtkgieciamophkaaDoorTag
namespace Go.Proofs.YtkgieciamophkaaDoor
open Go.RowKit

/-- a frame's parts -/
structure Fr where
  d : List UInt8
  s : List UInt8
  vl : Int
  ty : Nat
  b : List UInt8
/-- the frame of bytes -/
def pframe : List UInt8 → Option Fr
  | d0 :: d1 :: d2 :: d3 :: d4 :: d5 :: s0 :: s1 :: s2 :: s3 :: s4 :: s5 :: r => (ptag r).map fun q => ⟨[d0, d1, d2, d3, d4, d5], [s0, s1, s2, s3, s4, s5], q.1, q.2.1, q.2.2⟩
  | _ => none
/-- a frame as a value -/
def frv (f : Fr) (u : Value) : Value := .agg (f.d.map u8v ++ f.s.map u8v ++ [.int .i64 f.vl, .int .u16 (f.ty : Int), u]).toArray
def zfr : Value := .agg #[.int .u8 0, .int .u8 0, .int .u8 0, .int .u8 0, .int .u8 0, .int .u8 0, .int .u8 0, .int .u8 0, .int .u8 0, .int .u8 0, .int .u8 0, .int .u8 0, .int .i64 0, .int .u16 0, .slice none 0 0]
theorem RD.apart {w : World} {p g o : Nat} {l : List UInt8} (h : RD w p g o l) : g ≠ p := by
  obtain ⟨_, _, _, _, _, _, h5, _⟩ := h
  exact h5
theorem pframe_short1 {l : List UInt8} (h : l.length < 6) : pframe l = none := by
  match l, h with
  | [], _ => rfl
  | [_], _ => rfl
  | [_, _], _ => rfl
  | [_, _, _], _ => rfl
  | [_, _, _, _], _ => rfl
  | [_, _, _, _, _], _ => rfl
theorem pframe_short2 {d0 d1 d2 d3 d4 d5 : UInt8} {l : List UInt8} (h : l.length < 6) : pframe (d0 :: d1 :: d2 :: d3 :: d4 :: d5 :: l) = none := by
  match l, h with
  | [], _ => rfl
  | [_], _ => rfl
  | [_, _], _ => rfl
  | [_, _, _], _ => rfl
  | [_, _, _, _], _ => rfl
  | [_, _, _, _, _], _ => rfl

set_option maxRecDepth 100000 in
set_option maxHeartbeats 4000000 in
theorem parse_big (P : Nat → Prop) (A : Option Addr) (n c : Nat) (l : List UInt8) (w : World) (hr : RB w P (.slice A n c) l) (hA : A = none → c = 0) (hl : l.length ≤ 1000000000) (hbig : 9000 < l.length) :
    Calls Tryd.prog 34 #[.slice A n c] w fun e w' => Ex (fun _ => False) w w' ∧
      ((9000 < l.length ∧ ∃ v, e = .returned (.tuple #[zfr, v]) ∧ EC w' (fun j => w.heap.size ≤ j) [lay3] v 7) ∨
       (l.length ≤ 9000 ∧ pframe l = none ∧ ∃ v, e = .returned (.tuple #[zfr, v]) ∧ EC w' (fun j => w.heap.size ≤ j) [lay3, lay1] v 2) ∨
       (l.length ≤ 9000 ∧ ∃ f A' g o, pframe l = some f ∧ e = .returned (.tuple #[frv f (.slice A' f.b.length f.b.length), .nilIface]) ∧ w.heap.size ≤ g ∧ RB w' (fun j => j = g) (.slice A' f.b.length f.b.length) f.b ∧
         (f.b ≠ [] → A' = some ⟨g, o, none⟩ ∧ ∀ x, w'.frozen? ⟨g, x, none⟩ = false))) := by
  have hnl : n = l.length := by obtain ⟨_, _, _, e, _⟩ := hr; injection e
  subst hnl
  obtain ⟨pf, hpf⟩ : ∃ pf, pf = w.heap.size := ⟨_, rfl⟩
  have ha : Ex (fun _ => False) w (w.alloc (.cells #[.int .u8 0, .int .u8 0, .int .u8 0, .int .u8 0, .int .u8 0, .int .u8 0, .int .u8 0, .int .u8 0, .int .u8 0, .int .u8 0, .int .u8 0, .int .u8 0, .int .i64 0, .int .u16 0, .slice none 0 0] 76)) := (Ex.refl _ w).alloc _
  have hb : (w.alloc (.cells #[.int .u8 0, .int .u8 0, .int .u8 0, .int .u8 0, .int .u8 0, .int .u8 0, .int .u8 0, .int .u8 0, .int .u8 0, .int .u8 0, .int .u8 0, .int .u8 0, .int .i64 0, .int .u16 0, .slice none 0 0] 76)).heap[pf]? = some (.cells #[.int .u8 0, .int .u8 0, .int .u8 0, .int .u8 0, .int .u8 0, .int .u8 0, .int .u8 0, .int .u8 0, .int .u8 0, .int .u8 0, .int .u8 0, .int .u8 0, .int .i64 0, .int .u16 0, .slice none 0 0] 76) := by rw [hpf]; exact heap_alloc_new w _
  have hpf1 : w.heap.size ≤ pf := by omega
  have hpf2 : pf ≤ w.heap.size := by omega
  have HPF := Lib.hid hpf
  clear hpf
  have HR0 := Lib.hid (hr.alloc (.cells #[.int .u8 0, .int .u8 0, .int .u8 0, .int .u8 0, .int .u8 0, .int .u8 0, .int .u8 0, .int .u8 0, .int .u8 0, .int .u8 0, .int .u8 0, .int .u8 0, .int .i64 0, .int .u16 0, .slice none 0 0] 76))
  have HA := Lib.hid hA
  clear hr hA
  go_enter Tryd.func34, Tryd.ntmps34
  go_wp2_with fail
  have HXX := Lib.hid ha
  have HB := hb
  rw [← HPF.out]
  generalize w.alloc (.cells #[.int .u8 0, .int .u8 0, .int .u8 0, .int .u8 0, .int .u8 0, .int .u8 0, .int .u8 0, .int .u8 0, .int .u8 0, .int .u8 0, .int .u8 0, .int .u8 0, .int .i64 0, .int .u16 0, .slice none 0 0] 76) = w1 at HXX HB HR0 ⊢
  have hw1 := HXX.out.size
  clear ha hb
  refine (ewrong_any (fun _ => False) [] 7 _ w1 rfl).mono ?_
  rintro e w8 ⟨v8, rfl, he8, hx8⟩
  have hf8 := (hx8.block pf (row_lt HB) id).trans HB
  have c0 := row_cell (k := 0) (v := .int .u8 0) hf8 rfl
  have f0 := row_frozen hf8 0
  have c1 := row_cell (k := 1) (v := .int .u8 0) hf8 rfl
  have f1 := row_frozen hf8 1
  have c2 := row_cell (k := 2) (v := .int .u8 0) hf8 rfl
  have f2 := row_frozen hf8 2
  have c3 := row_cell (k := 3) (v := .int .u8 0) hf8 rfl
  have f3 := row_frozen hf8 3
  have c4 := row_cell (k := 4) (v := .int .u8 0) hf8 rfl
  have f4 := row_frozen hf8 4
  have c5 := row_cell (k := 5) (v := .int .u8 0) hf8 rfl
  have f5 := row_frozen hf8 5
  have c6 := row_cell (k := 6) (v := .int .u8 0) hf8 rfl
  have f6 := row_frozen hf8 6
  have c7 := row_cell (k := 7) (v := .int .u8 0) hf8 rfl
  have f7 := row_frozen hf8 7
  have c8 := row_cell (k := 8) (v := .int .u8 0) hf8 rfl
  have f8 := row_frozen hf8 8
  have c9 := row_cell (k := 9) (v := .int .u8 0) hf8 rfl
  have f9 := row_frozen hf8 9
  have c10 := row_cell (k := 10) (v := .int .u8 0) hf8 rfl
  have f10 := row_frozen hf8 10
  have c11 := row_cell (k := 11) (v := .int .u8 0) hf8 rfl
  have f11 := row_frozen hf8 11
  have c12 := row_cell (k := 12) (v := .int .i64 0) hf8 rfl
  have f12 := row_frozen hf8 12
  have c13 := row_cell (k := 13) (v := .int .u16 0) hf8 rfl
  have f13 := row_frozen hf8 13
  have c14 := row_cell (k := 14) (v := .slice none 0 0) hf8 rfl
  have f14 := row_frozen hf8 14
  have HX9 := Lib.hid ((((((((((((((((Ex.refl (fun j => j = pf) w8).setCell (p := ⟨pf, 0, none⟩) (.inl rfl) (.int .u8 0)).setCell (p := ⟨pf, 1, none⟩) (.inl rfl) (.int .u8 0)).setCell (p := ⟨pf, 2, none⟩) (.inl rfl) (.int .u8 0)).setCell (p := ⟨pf, 3, none⟩) (.inl rfl) (.int .u8 0)).setCell (p := ⟨pf, 4, none⟩) (.inl rfl) (.int .u8 0)).setCell (p := ⟨pf, 5, none⟩) (.inl rfl) (.int .u8 0)).setCell (p := ⟨pf, 6, none⟩) (.inl rfl) (.int .u8 0)).setCell (p := ⟨pf, 7, none⟩) (.inl rfl) (.int .u8 0)).setCell (p := ⟨pf, 8, none⟩) (.inl rfl) (.int .u8 0)).setCell (p := ⟨pf, 9, none⟩) (.inl rfl) (.int .u8 0)).setCell (p := ⟨pf, 10, none⟩) (.inl rfl) (.int .u8 0)).setCell (p := ⟨pf, 11, none⟩) (.inl rfl) (.int .u8 0)).setCell (p := ⟨pf, 12, none⟩) (.inl rfl) (.int .i64 0)).setCell (p := ⟨pf, 13, none⟩) (.inl rfl) (.int .u16 0)).setCell (p := ⟨pf, 14, none⟩) (.inl rfl) (.slice none 0 0))
  have HX8 := Lib.hid (HXX.out.trans hx8)
  have HE8 := Lib.hid he8
  have hsz8 := hx8.size
  clear hf8 hx8 he8
  go_wp2_with fail
  (try simp only [Exit.inBlock, Exit.then])
  refine bodyPost_ret (v := .tuple #[.agg #[.int .u8 0, .int .u8 0, .int .u8 0, .int .u8 0, .int .u8 0, .int .u8 0, .int .u8 0, .int .u8 0, .int .u8 0, .int .u8 0, .int .u8 0, .int .u8 0, .int .i64 0, .int .u16 0, .slice none 0 0], v8]) ?_ rfl ⟨HX8.out.andThen HX9.out (fun i hi e => by omega), .inl ⟨hbig, v8, rfl, (EC.mono (fun j hj => by rcases hj with h | h; exact h.elim; omega) (HE8.out.keep HX9.out (fun j hj e => by rcases hj with h | h; exact h.elim; have := row_lt HB; omega)))⟩⟩
  rw [results_cell_tmp rfl]
  go_simp

set_option maxRecDepth 100000 in
set_option maxHeartbeats 4000000 in
theorem parse_few1 (P : Nat → Prop) (A : Option Addr) (n c : Nat) (l : List UInt8) (w : World) (hr : RB w P (.slice A n c) l) (hA : A = none → c = 0) (hl : l.length ≤ 1000000000) (hle : l.length ≤ 9000) (hl1 : l.length < 6) :
    Calls Tryd.prog 34 #[.slice A n c] w fun e w' => Ex (fun _ => False) w w' ∧
      ((9000 < l.length ∧ ∃ v, e = .returned (.tuple #[zfr, v]) ∧ EC w' (fun j => w.heap.size ≤ j) [lay3] v 7) ∨
       (l.length ≤ 9000 ∧ pframe l = none ∧ ∃ v, e = .returned (.tuple #[zfr, v]) ∧ EC w' (fun j => w.heap.size ≤ j) [lay3, lay1] v 2) ∨
       (l.length ≤ 9000 ∧ ∃ f A' g o, pframe l = some f ∧ e = .returned (.tuple #[frv f (.slice A' f.b.length f.b.length), .nilIface]) ∧ w.heap.size ≤ g ∧ RB w' (fun j => j = g) (.slice A' f.b.length f.b.length) f.b ∧
         (f.b ≠ [] → A' = some ⟨g, o, none⟩ ∧ ∀ x, w'.frozen? ⟨g, x, none⟩ = false))) := by
  have hnl : n = l.length := by obtain ⟨_, _, _, e, _⟩ := hr; injection e
  subst hnl
  obtain ⟨pf, hpf⟩ : ∃ pf, pf = w.heap.size := ⟨_, rfl⟩
  have ha : Ex (fun _ => False) w (w.alloc (.cells #[.int .u8 0, .int .u8 0, .int .u8 0, .int .u8 0, .int .u8 0, .int .u8 0, .int .u8 0, .int .u8 0, .int .u8 0, .int .u8 0, .int .u8 0, .int .u8 0, .int .i64 0, .int .u16 0, .slice none 0 0] 76)) := (Ex.refl _ w).alloc _
  have hb : (w.alloc (.cells #[.int .u8 0, .int .u8 0, .int .u8 0, .int .u8 0, .int .u8 0, .int .u8 0, .int .u8 0, .int .u8 0, .int .u8 0, .int .u8 0, .int .u8 0, .int .u8 0, .int .i64 0, .int .u16 0, .slice none 0 0] 76)).heap[pf]? = some (.cells #[.int .u8 0, .int .u8 0, .int .u8 0, .int .u8 0, .int .u8 0, .int .u8 0, .int .u8 0, .int .u8 0, .int .u8 0, .int .u8 0, .int .u8 0, .int .u8 0, .int .i64 0, .int .u16 0, .slice none 0 0] 76) := by rw [hpf]; exact heap_alloc_new w _
  have hpf1 : w.heap.size ≤ pf := by omega
  have hpf2 : pf ≤ w.heap.size := by omega
  have HPF := Lib.hid hpf
  clear hpf
  have HR0 := Lib.hid (hr.alloc (.cells #[.int .u8 0, .int .u8 0, .int .u8 0, .int .u8 0, .int .u8 0, .int .u8 0, .int .u8 0, .int .u8 0, .int .u8 0, .int .u8 0, .int .u8 0, .int .u8 0, .int .i64 0, .int .u16 0, .slice none 0 0] 76))
  have HA := Lib.hid hA
  clear hr hA
  go_enter Tryd.func34, Tryd.ntmps34
  go_wp2_with fail
  have HXX := Lib.hid ha
  have HB := Lib.hid hb
  rw [← HPF.out]
  generalize w.alloc (.cells #[.int .u8 0, .int .u8 0, .int .u8 0, .int .u8 0, .int .u8 0, .int .u8 0, .int .u8 0, .int .u8 0, .int .u8 0, .int .u8 0, .int .u8 0, .int .u8 0, .int .i64 0, .int .u16 0, .slice none 0 0] 76) = w1 at HXX HB HR0 ⊢
  have hw1 := HXX.out.size
  clear ha hb
  refine (read_anyF P A l.length c l w1 HR0.out HA.out hl).mono ?_
  rintro e w2 ⟨p, g, rfl, hr2, hp2, hg2, hx2, hz2⟩
  have hf2 := (hx2.block pf (row_lt HB.out) id).trans HB.out
  have hpf2 := row_lt HB.out
  have hnp : pf ≠ p := by omega
  have hng : pf ≠ g := by omega
  have hgz : l ≠ [] → ∀ x, w2.frozen? ⟨g, x, none⟩ = false := fun hn => hz2 (List.length_pos_iff.2 hn)
  have hgl : l ≠ [] → g < w2.heap.size := fun hn => hr2.ltg (List.length_pos_iff.2 hn)
  have HX2 := Lib.hid (HXX.out.trans hx2)
  have HR2 := Lib.hid hr2
  have HF2 := Lib.hid hf2
  have HGZ := Lib.hid hgz
  have HGL := Lib.hid hgl
  have hp2l := hr2.lt
  have hw2 := hx2.size
  have hwp : w.heap.size ≤ p := by omega
  have hwg : w.heap.size ≤ g := by omega
  clear hr2 hx2 hz2 hf2 hgz hgl HXX HB HR0
  go_wp2_with fail
  refine (mac_few p g 0 l w2 HR2.out hl1).mono ?_
  rintro e w3 ⟨v3, rfl, he3, hx3⟩
  have hf3 := (hx3.block pf (row_lt HF2.out) id).trans HF2.out
  have hec := he3
  obtain ⟨ty3, y3, rfl⟩ := he3.shape
  have HEC := Lib.hid hec
  have hw3 := hx3.size
  have c0 := row_cell (k := 0) (v := .int .u8 0) hf3 rfl
  have f0 := row_frozen hf3 0
  have c1 := row_cell (k := 1) (v := .int .u8 0) hf3 rfl
  have f1 := row_frozen hf3 1
  have c2 := row_cell (k := 2) (v := .int .u8 0) hf3 rfl
  have f2 := row_frozen hf3 2
  have c3 := row_cell (k := 3) (v := .int .u8 0) hf3 rfl
  have f3 := row_frozen hf3 3
  have c4 := row_cell (k := 4) (v := .int .u8 0) hf3 rfl
  have f4 := row_frozen hf3 4
  have c5 := row_cell (k := 5) (v := .int .u8 0) hf3 rfl
  have f5 := row_frozen hf3 5
  have hx4 := (((((((Ex.refl (fun j => j = pf) w3).setCell (p := ⟨pf, 0, none⟩) (.inl rfl) (.int .u8 0)).setCell (p := ⟨pf, 1, none⟩) (.inl rfl) (.int .u8 0)).setCell (p := ⟨pf, 2, none⟩) (.inl rfl) (.int .u8 0)).setCell (p := ⟨pf, 3, none⟩) (.inl rfl) (.int .u8 0)).setCell (p := ⟨pf, 4, none⟩) (.inl rfl) (.int .u8 0)).setCell (p := ⟨pf, 5, none⟩) (.inl rfl) (.int .u8 0))
  have hf4 := (row_set (row_set (row_set (row_set (row_set (row_set hf3 0 (.int .u8 0)) 1 (.int .u8 0)) 2 (.int .u8 0)) 3 (.int .u8 0)) 4 (.int .u8 0)) 5 (.int .u8 0))
  have HX3 := Lib.hid (HX2.out.trans hx3)
  have HX4 := Lib.hid hx4
  have HF4 : Hid (((((((w3.setCell ⟨pf, 0, none⟩ (.int .u8 0)).setCell ⟨pf, 1, none⟩ (.int .u8 0)).setCell ⟨pf, 2, none⟩ (.int .u8 0)).setCell ⟨pf, 3, none⟩ (.int .u8 0)).setCell ⟨pf, 4, none⟩ (.int .u8 0)).setCell ⟨pf, 5, none⟩ (.int .u8 0)).heap[pf]? = some (.cells #[.int .u8 0, .int .u8 0, .int .u8 0, .int .u8 0, .int .u8 0, .int .u8 0, .int .u8 0, .int .u8 0, .int .u8 0, .int .u8 0, .int .u8 0, .int .u8 0, .int .i64 0, .int .u16 0, .slice none 0 0] 76)) := hf4
  have HE4 := Lib.hid (HEC.out.keep hx4 (fun j hj e => by omega))
  clear hx3 he3 hec hf3 hx4 hf4 HX2 HR2 HF2 HEC
  go_wp2_with fail
  clear c0 f0
  clear c1 f1
  clear c2 f2
  clear c3 f3
  clear c4 f4
  clear c5 f5
  generalize ((((((w3.setCell ⟨pf, 0, none⟩ (.int .u8 0)).setCell ⟨pf, 1, none⟩ (.int .u8 0)).setCell ⟨pf, 2, none⟩ (.int .u8 0)).setCell ⟨pf, 3, none⟩ (.int .u8 0)).setCell ⟨pf, 4, none⟩ (.int .u8 0)).setCell ⟨pf, 5, none⟩ (.int .u8 0)) = w4 at HX4 HF4 HE4 ⊢
  have HXX := Lib.hid (HX3.out.andThen HX4.out (fun i hi e => by omega))
  have hw4 := HX4.out.size
  refine (ewrong_any _ [lay1] 2 _ w4 HE4.out).mono ?_
  rintro e w8 ⟨v8, rfl, he8, hx8⟩
  have hf8 := (hx8.block pf (row_lt HF4.out) id).trans HF4.out
  have c0 := row_cell (k := 0) (v := .int .u8 0) hf8 rfl
  have f0 := row_frozen hf8 0
  have c1 := row_cell (k := 1) (v := .int .u8 0) hf8 rfl
  have f1 := row_frozen hf8 1
  have c2 := row_cell (k := 2) (v := .int .u8 0) hf8 rfl
  have f2 := row_frozen hf8 2
  have c3 := row_cell (k := 3) (v := .int .u8 0) hf8 rfl
  have f3 := row_frozen hf8 3
  have c4 := row_cell (k := 4) (v := .int .u8 0) hf8 rfl
  have f4 := row_frozen hf8 4
  have c5 := row_cell (k := 5) (v := .int .u8 0) hf8 rfl
  have f5 := row_frozen hf8 5
  have c6 := row_cell (k := 6) (v := .int .u8 0) hf8 rfl
  have f6 := row_frozen hf8 6
  have c7 := row_cell (k := 7) (v := .int .u8 0) hf8 rfl
  have f7 := row_frozen hf8 7
  have c8 := row_cell (k := 8) (v := .int .u8 0) hf8 rfl
  have f8 := row_frozen hf8 8
  have c9 := row_cell (k := 9) (v := .int .u8 0) hf8 rfl
  have f9 := row_frozen hf8 9
  have c10 := row_cell (k := 10) (v := .int .u8 0) hf8 rfl
  have f10 := row_frozen hf8 10
  have c11 := row_cell (k := 11) (v := .int .u8 0) hf8 rfl
  have f11 := row_frozen hf8 11
  have c12 := row_cell (k := 12) (v := .int .i64 0) hf8 rfl
  have f12 := row_frozen hf8 12
  have c13 := row_cell (k := 13) (v := .int .u16 0) hf8 rfl
  have f13 := row_frozen hf8 13
  have c14 := row_cell (k := 14) (v := .slice none 0 0) hf8 rfl
  have f14 := row_frozen hf8 14
  have HX9 := Lib.hid ((((((((((((((((Ex.refl (fun j => j = pf) w8).setCell (p := ⟨pf, 0, none⟩) (.inl rfl) (.int .u8 0)).setCell (p := ⟨pf, 1, none⟩) (.inl rfl) (.int .u8 0)).setCell (p := ⟨pf, 2, none⟩) (.inl rfl) (.int .u8 0)).setCell (p := ⟨pf, 3, none⟩) (.inl rfl) (.int .u8 0)).setCell (p := ⟨pf, 4, none⟩) (.inl rfl) (.int .u8 0)).setCell (p := ⟨pf, 5, none⟩) (.inl rfl) (.int .u8 0)).setCell (p := ⟨pf, 6, none⟩) (.inl rfl) (.int .u8 0)).setCell (p := ⟨pf, 7, none⟩) (.inl rfl) (.int .u8 0)).setCell (p := ⟨pf, 8, none⟩) (.inl rfl) (.int .u8 0)).setCell (p := ⟨pf, 9, none⟩) (.inl rfl) (.int .u8 0)).setCell (p := ⟨pf, 10, none⟩) (.inl rfl) (.int .u8 0)).setCell (p := ⟨pf, 11, none⟩) (.inl rfl) (.int .u8 0)).setCell (p := ⟨pf, 12, none⟩) (.inl rfl) (.int .i64 0)).setCell (p := ⟨pf, 13, none⟩) (.inl rfl) (.int .u16 0)).setCell (p := ⟨pf, 14, none⟩) (.inl rfl) (.slice none 0 0))
  have HX8 := Lib.hid (HXX.out.trans hx8)
  have HE8 := Lib.hid he8
  have hsz8 := hx8.size
  clear hf8 hx8 he8
  go_wp2_with fail
  (try simp only [Exit.inBlock, Exit.then])
  refine bodyPost_ret (v := .tuple #[.agg #[.int .u8 0, .int .u8 0, .int .u8 0, .int .u8 0, .int .u8 0, .int .u8 0, .int .u8 0, .int .u8 0, .int .u8 0, .int .u8 0, .int .u8 0, .int .u8 0, .int .i64 0, .int .u16 0, .slice none 0 0], v8]) ?_ rfl ⟨HX8.out.andThen HX9.out (fun i hi e => by omega), .inr (.inl ⟨hle, pframe_short1 hl1, v8, rfl, (EC.mono (fun j hj => by rcases hj with h | h <;> omega) (HE8.out.keep HX9.out (fun j hj e => by rcases hj with h | h <;> omega)))⟩)⟩
  rw [results_cell_tmp rfl]
  go_simp

set_option maxRecDepth 100000 in
set_option maxHeartbeats 4000000 in
theorem parse_few2 (P : Nat → Prop) (A : Option Addr) (n c : Nat) (l : List UInt8) (w : World) (hr : RB w P (.slice A n c) l) (hA : A = none → c = 0) (hl : l.length ≤ 1000000000) (hle : l.length ≤ 9000) (hl1 : 6 ≤ l.length) (hl2 : l.length < 12) :
    Calls Tryd.prog 34 #[.slice A n c] w fun e w' => Ex (fun _ => False) w w' ∧
      ((9000 < l.length ∧ ∃ v, e = .returned (.tuple #[zfr, v]) ∧ EC w' (fun j => w.heap.size ≤ j) [lay3] v 7) ∨
       (l.length ≤ 9000 ∧ pframe l = none ∧ ∃ v, e = .returned (.tuple #[zfr, v]) ∧ EC w' (fun j => w.heap.size ≤ j) [lay3, lay1] v 2) ∨
       (l.length ≤ 9000 ∧ ∃ f A' g o, pframe l = some f ∧ e = .returned (.tuple #[frv f (.slice A' f.b.length f.b.length), .nilIface]) ∧ w.heap.size ≤ g ∧ RB w' (fun j => j = g) (.slice A' f.b.length f.b.length) f.b ∧
         (f.b ≠ [] → A' = some ⟨g, o, none⟩ ∧ ∀ x, w'.frozen? ⟨g, x, none⟩ = false))) := by
  have hnl : n = l.length := by obtain ⟨_, _, _, e, _⟩ := hr; injection e
  subst hnl
  obtain ⟨pf, hpf⟩ : ∃ pf, pf = w.heap.size := ⟨_, rfl⟩
  have ha : Ex (fun _ => False) w (w.alloc (.cells #[.int .u8 0, .int .u8 0, .int .u8 0, .int .u8 0, .int .u8 0, .int .u8 0, .int .u8 0, .int .u8 0, .int .u8 0, .int .u8 0, .int .u8 0, .int .u8 0, .int .i64 0, .int .u16 0, .slice none 0 0] 76)) := (Ex.refl _ w).alloc _
  have hb : (w.alloc (.cells #[.int .u8 0, .int .u8 0, .int .u8 0, .int .u8 0, .int .u8 0, .int .u8 0, .int .u8 0, .int .u8 0, .int .u8 0, .int .u8 0, .int .u8 0, .int .u8 0, .int .i64 0, .int .u16 0, .slice none 0 0] 76)).heap[pf]? = some (.cells #[.int .u8 0, .int .u8 0, .int .u8 0, .int .u8 0, .int .u8 0, .int .u8 0, .int .u8 0, .int .u8 0, .int .u8 0, .int .u8 0, .int .u8 0, .int .u8 0, .int .i64 0, .int .u16 0, .slice none 0 0] 76) := by rw [hpf]; exact heap_alloc_new w _
  have hpf1 : w.heap.size ≤ pf := by omega
  have hpf2 : pf ≤ w.heap.size := by omega
  have HPF := Lib.hid hpf
  clear hpf
  have HR0 := Lib.hid (hr.alloc (.cells #[.int .u8 0, .int .u8 0, .int .u8 0, .int .u8 0, .int .u8 0, .int .u8 0, .int .u8 0, .int .u8 0, .int .u8 0, .int .u8 0, .int .u8 0, .int .u8 0, .int .i64 0, .int .u16 0, .slice none 0 0] 76))
  have HA := Lib.hid hA
  clear hr hA
  go_enter Tryd.func34, Tryd.ntmps34
  go_wp2_with fail
  have HXX := Lib.hid ha
  have HB := Lib.hid hb
  rw [← HPF.out]
  generalize w.alloc (.cells #[.int .u8 0, .int .u8 0, .int .u8 0, .int .u8 0, .int .u8 0, .int .u8 0, .int .u8 0, .int .u8 0, .int .u8 0, .int .u8 0, .int .u8 0, .int .u8 0, .int .i64 0, .int .u16 0, .slice none 0 0] 76) = w1 at HXX HB HR0 ⊢
  have hw1 := HXX.out.size
  clear ha hb
  refine (read_anyF P A l.length c l w1 HR0.out HA.out hl).mono ?_
  rintro e w2 ⟨p, g, rfl, hr2, hp2, hg2, hx2, hz2⟩
  have hf2 := (hx2.block pf (row_lt HB.out) id).trans HB.out
  have hpf2 := row_lt HB.out
  have hnp : pf ≠ p := by omega
  have hng : pf ≠ g := by omega
  have hgz : l ≠ [] → ∀ x, w2.frozen? ⟨g, x, none⟩ = false := fun hn => hz2 (List.length_pos_iff.2 hn)
  have hgl : l ≠ [] → g < w2.heap.size := fun hn => hr2.ltg (List.length_pos_iff.2 hn)
  have HX2 := Lib.hid (HXX.out.trans hx2)
  have HR2 := Lib.hid hr2
  have HF2 := Lib.hid hf2
  have HGZ := Lib.hid hgz
  have HGL := Lib.hid hgl
  have hp2l := hr2.lt
  have hw2 := hx2.size
  have hwp : w.heap.size ≤ p := by omega
  have hwg : w.heap.size ≤ g := by omega
  clear hr2 hx2 hz2 hf2 hgz hgl HXX HB HR0
  go_wp2_with fail
  obtain ⟨d0, d1, d2, d3, d4, d5, r, rfl⟩ := six (show 6 ≤ l.length by omega)
  refine (mac_any p g 0 d0 d1 d2 d3 d4 d5 r w2 HR2.out).mono ?_
  rintro e w3 ⟨rfl, hr3, hx3⟩
  have hf3 := (hx3.block pf (row_lt HF2.out) hnp).trans HF2.out
  have hw3 := hx3.size
  have c0 := row_cell (k := 0) (v := .int .u8 0) hf3 rfl
  have f0 := row_frozen hf3 0
  have c1 := row_cell (k := 1) (v := .int .u8 0) hf3 rfl
  have f1 := row_frozen hf3 1
  have c2 := row_cell (k := 2) (v := .int .u8 0) hf3 rfl
  have f2 := row_frozen hf3 2
  have c3 := row_cell (k := 3) (v := .int .u8 0) hf3 rfl
  have f3 := row_frozen hf3 3
  have c4 := row_cell (k := 4) (v := .int .u8 0) hf3 rfl
  have f4 := row_frozen hf3 4
  have c5 := row_cell (k := 5) (v := .int .u8 0) hf3 rfl
  have f5 := row_frozen hf3 5
  have hx4 := (((((((Ex.refl (fun j => j = pf) w3).setCell (p := ⟨pf, 0, none⟩) (.inl rfl) (.int .u8 (d0.toNat : Int))).setCell (p := ⟨pf, 1, none⟩) (.inl rfl) (.int .u8 (d1.toNat : Int))).setCell (p := ⟨pf, 2, none⟩) (.inl rfl) (.int .u8 (d2.toNat : Int))).setCell (p := ⟨pf, 3, none⟩) (.inl rfl) (.int .u8 (d3.toNat : Int))).setCell (p := ⟨pf, 4, none⟩) (.inl rfl) (.int .u8 (d4.toNat : Int))).setCell (p := ⟨pf, 5, none⟩) (.inl rfl) (.int .u8 (d5.toNat : Int)))
  have hf4 := (row_set (row_set (row_set (row_set (row_set (row_set hf3 0 (.int .u8 (d0.toNat : Int))) 1 (.int .u8 (d1.toNat : Int))) 2 (.int .u8 (d2.toNat : Int))) 3 (.int .u8 (d3.toNat : Int))) 4 (.int .u8 (d4.toNat : Int))) 5 (.int .u8 (d5.toNat : Int)))
  have HX3 := Lib.hid (HX2.out.andThen hx3 (fun i hi e => by omega))
  have HX4 := Lib.hid hx4
  have HF4 : Hid (((((((w3.setCell ⟨pf, 0, none⟩ (.int .u8 (d0.toNat : Int))).setCell ⟨pf, 1, none⟩ (.int .u8 (d1.toNat : Int))).setCell ⟨pf, 2, none⟩ (.int .u8 (d2.toNat : Int))).setCell ⟨pf, 3, none⟩ (.int .u8 (d3.toNat : Int))).setCell ⟨pf, 4, none⟩ (.int .u8 (d4.toNat : Int))).setCell ⟨pf, 5, none⟩ (.int .u8 (d5.toNat : Int))).heap[pf]? = some (.cells #[.int .u8 (d0.toNat : Int), .int .u8 (d1.toNat : Int), .int .u8 (d2.toNat : Int), .int .u8 (d3.toNat : Int), .int .u8 (d4.toNat : Int), .int .u8 (d5.toNat : Int), .int .u8 0, .int .u8 0, .int .u8 0, .int .u8 0, .int .u8 0, .int .u8 0, .int .i64 0, .int .u16 0, .slice none 0 0] 76)) := hf4
  have HR4 := Lib.hid (hr3.keep hx4 (fun e => hnp e.symm) (fun _ e => hng e.symm))
  have HZ3 := Lib.hid (fun x => (hx3.frozen (p := ⟨g, x, none⟩) (HGL.out (by simp)) HR2.out.apart).trans (HGZ.out (by simp) x))
  have HGL3 : g < w3.heap.size := Nat.lt_of_lt_of_le (HGL.out (by simp)) hw3
  have HZ4 := Lib.hid (fun x => (hx4.frozen (p := ⟨g, x, none⟩) HGL3 (fun e => hng e.symm)).trans (HZ3.out x))
  clear hx3 hr3 hf3 hx4 hf4 HX2 HR2 HF2 HZ3 HGZ HGL
  go_wp2_with fail
  clear c0 f0
  clear c1 f1
  clear c2 f2
  clear c3 f3
  clear c4 f4
  clear c5 f5
  generalize ((((((w3.setCell ⟨pf, 0, none⟩ (.int .u8 (d0.toNat : Int))).setCell ⟨pf, 1, none⟩ (.int .u8 (d1.toNat : Int))).setCell ⟨pf, 2, none⟩ (.int .u8 (d2.toNat : Int))).setCell ⟨pf, 3, none⟩ (.int .u8 (d3.toNat : Int))).setCell ⟨pf, 4, none⟩ (.int .u8 (d4.toNat : Int))).setCell ⟨pf, 5, none⟩ (.int .u8 (d5.toNat : Int))) = w4 at HX4 HF4 HR4 HZ4 ⊢
  have HX := Lib.hid (HX3.out.andThen HX4.out (fun i hi e => by omega))
  have hw4 := HX4.out.size
  clear HX3 HX4
  have hl2' : r.length < 6 := by simp at hl2; omega
  refine (mac_few p g _ r w4 HR4.out hl2').mono ?_
  rintro e w5 ⟨v5, rfl, he5, hx5⟩
  have hf5 := (hx5.block pf (row_lt HF4.out) id).trans HF4.out
  have hec := he5
  obtain ⟨ty5, y5, rfl⟩ := he5.shape
  have HEC := Lib.hid hec
  have hw5 := hx5.size
  have c6 := row_cell (k := 6) (v := .int .u8 0) hf5 rfl
  have f6 := row_frozen hf5 6
  have c7 := row_cell (k := 7) (v := .int .u8 0) hf5 rfl
  have f7 := row_frozen hf5 7
  have c8 := row_cell (k := 8) (v := .int .u8 0) hf5 rfl
  have f8 := row_frozen hf5 8
  have c9 := row_cell (k := 9) (v := .int .u8 0) hf5 rfl
  have f9 := row_frozen hf5 9
  have c10 := row_cell (k := 10) (v := .int .u8 0) hf5 rfl
  have f10 := row_frozen hf5 10
  have c11 := row_cell (k := 11) (v := .int .u8 0) hf5 rfl
  have f11 := row_frozen hf5 11
  have hx6 := (((((((Ex.refl (fun j => j = pf) w5).setCell (p := ⟨pf, 6, none⟩) (.inl rfl) (.int .u8 0)).setCell (p := ⟨pf, 7, none⟩) (.inl rfl) (.int .u8 0)).setCell (p := ⟨pf, 8, none⟩) (.inl rfl) (.int .u8 0)).setCell (p := ⟨pf, 9, none⟩) (.inl rfl) (.int .u8 0)).setCell (p := ⟨pf, 10, none⟩) (.inl rfl) (.int .u8 0)).setCell (p := ⟨pf, 11, none⟩) (.inl rfl) (.int .u8 0))
  have hf6 := (row_set (row_set (row_set (row_set (row_set (row_set hf5 6 (.int .u8 0)) 7 (.int .u8 0)) 8 (.int .u8 0)) 9 (.int .u8 0)) 10 (.int .u8 0)) 11 (.int .u8 0))
  have HX5 := Lib.hid (HX.out.trans hx5)
  have HX6 := Lib.hid hx6
  have HF6 : Hid (((((((w5.setCell ⟨pf, 6, none⟩ (.int .u8 0)).setCell ⟨pf, 7, none⟩ (.int .u8 0)).setCell ⟨pf, 8, none⟩ (.int .u8 0)).setCell ⟨pf, 9, none⟩ (.int .u8 0)).setCell ⟨pf, 10, none⟩ (.int .u8 0)).setCell ⟨pf, 11, none⟩ (.int .u8 0)).heap[pf]? = some (.cells #[.int .u8 (d0.toNat : Int), .int .u8 (d1.toNat : Int), .int .u8 (d2.toNat : Int), .int .u8 (d3.toNat : Int), .int .u8 (d4.toNat : Int), .int .u8 (d5.toNat : Int), .int .u8 0, .int .u8 0, .int .u8 0, .int .u8 0, .int .u8 0, .int .u8 0, .int .i64 0, .int .u16 0, .slice none 0 0] 76)) := hf6
  have HE6 := Lib.hid (HEC.out.keep hx6 (fun j hj e => by have := row_lt HF4.out; omega))
  have hpw4 := row_lt HF4.out
  clear hx5 he5 hec hf5 hx6 hf6 HX HR4 HF4 HEC HZ4
  go_wp2_with fail
  clear c6 f6
  clear c7 f7
  clear c8 f8
  clear c9 f9
  clear c10 f10
  clear c11 f11
  generalize ((((((w5.setCell ⟨pf, 6, none⟩ (.int .u8 0)).setCell ⟨pf, 7, none⟩ (.int .u8 0)).setCell ⟨pf, 8, none⟩ (.int .u8 0)).setCell ⟨pf, 9, none⟩ (.int .u8 0)).setCell ⟨pf, 10, none⟩ (.int .u8 0)).setCell ⟨pf, 11, none⟩ (.int .u8 0)) = w6 at HX6 HF6 HE6 ⊢
  have HXX := Lib.hid (HX5.out.andThen HX6.out (fun i hi e => by omega))
  have hw6 := HX6.out.size
  refine (ewrong_any _ [lay1] 2 _ w6 HE6.out).mono ?_
  rintro e w8 ⟨v8, rfl, he8, hx8⟩
  have hf8 := (hx8.block pf (row_lt HF6.out) id).trans HF6.out
  have c0 := row_cell (k := 0) (v := .int .u8 (d0.toNat : Int)) hf8 rfl
  have f0 := row_frozen hf8 0
  have c1 := row_cell (k := 1) (v := .int .u8 (d1.toNat : Int)) hf8 rfl
  have f1 := row_frozen hf8 1
  have c2 := row_cell (k := 2) (v := .int .u8 (d2.toNat : Int)) hf8 rfl
  have f2 := row_frozen hf8 2
  have c3 := row_cell (k := 3) (v := .int .u8 (d3.toNat : Int)) hf8 rfl
  have f3 := row_frozen hf8 3
  have c4 := row_cell (k := 4) (v := .int .u8 (d4.toNat : Int)) hf8 rfl
  have f4 := row_frozen hf8 4
  have c5 := row_cell (k := 5) (v := .int .u8 (d5.toNat : Int)) hf8 rfl
  have f5 := row_frozen hf8 5
  have c6 := row_cell (k := 6) (v := .int .u8 0) hf8 rfl
  have f6 := row_frozen hf8 6
  have c7 := row_cell (k := 7) (v := .int .u8 0) hf8 rfl
  have f7 := row_frozen hf8 7
  have c8 := row_cell (k := 8) (v := .int .u8 0) hf8 rfl
  have f8 := row_frozen hf8 8
  have c9 := row_cell (k := 9) (v := .int .u8 0) hf8 rfl
  have f9 := row_frozen hf8 9
  have c10 := row_cell (k := 10) (v := .int .u8 0) hf8 rfl
  have f10 := row_frozen hf8 10
  have c11 := row_cell (k := 11) (v := .int .u8 0) hf8 rfl
  have f11 := row_frozen hf8 11
  have c12 := row_cell (k := 12) (v := .int .i64 0) hf8 rfl
  have f12 := row_frozen hf8 12
  have c13 := row_cell (k := 13) (v := .int .u16 0) hf8 rfl
  have f13 := row_frozen hf8 13
  have c14 := row_cell (k := 14) (v := .slice none 0 0) hf8 rfl
  have f14 := row_frozen hf8 14
  have HX9 := Lib.hid ((((((((((((((((Ex.refl (fun j => j = pf) w8).setCell (p := ⟨pf, 0, none⟩) (.inl rfl) (.int .u8 0)).setCell (p := ⟨pf, 1, none⟩) (.inl rfl) (.int .u8 0)).setCell (p := ⟨pf, 2, none⟩) (.inl rfl) (.int .u8 0)).setCell (p := ⟨pf, 3, none⟩) (.inl rfl) (.int .u8 0)).setCell (p := ⟨pf, 4, none⟩) (.inl rfl) (.int .u8 0)).setCell (p := ⟨pf, 5, none⟩) (.inl rfl) (.int .u8 0)).setCell (p := ⟨pf, 6, none⟩) (.inl rfl) (.int .u8 0)).setCell (p := ⟨pf, 7, none⟩) (.inl rfl) (.int .u8 0)).setCell (p := ⟨pf, 8, none⟩) (.inl rfl) (.int .u8 0)).setCell (p := ⟨pf, 9, none⟩) (.inl rfl) (.int .u8 0)).setCell (p := ⟨pf, 10, none⟩) (.inl rfl) (.int .u8 0)).setCell (p := ⟨pf, 11, none⟩) (.inl rfl) (.int .u8 0)).setCell (p := ⟨pf, 12, none⟩) (.inl rfl) (.int .i64 0)).setCell (p := ⟨pf, 13, none⟩) (.inl rfl) (.int .u16 0)).setCell (p := ⟨pf, 14, none⟩) (.inl rfl) (.slice none 0 0))
  have HX8 := Lib.hid (HXX.out.trans hx8)
  have HE8 := Lib.hid he8
  have hsz8 := hx8.size
  clear hf8 hx8 he8
  go_wp2_with fail
  (try simp only [Exit.inBlock, Exit.then])
  refine bodyPost_ret (v := .tuple #[.agg #[.int .u8 0, .int .u8 0, .int .u8 0, .int .u8 0, .int .u8 0, .int .u8 0, .int .u8 0, .int .u8 0, .int .u8 0, .int .u8 0, .int .u8 0, .int .u8 0, .int .i64 0, .int .u16 0, .slice none 0 0], v8]) ?_ rfl ⟨HX8.out.andThen HX9.out (fun i hi e => by omega), .inr (.inl ⟨hle, pframe_short2 hl2', v8, rfl, (EC.mono (fun j hj => by rcases hj with h | h <;> omega) (HE8.out.keep HX9.out (fun j hj e => by rcases hj with h | h <;> omega)))⟩)⟩
  rw [results_cell_tmp rfl]
  go_simp

set_option maxRecDepth 100000 in
set_option maxHeartbeats 4000000 in
theorem parse_bad (P : Nat → Prop) (A : Option Addr) (n c : Nat) (l : List UInt8) (w : World) (hr : RB w P (.slice A n c) l) (hA : A = none → c = 0) (hl : l.length ≤ 1000000000) (hle : l.length ≤ 9000) (hl1 : 6 ≤ l.length) (hl2 : 12 ≤ l.length) (hpn : pframe l = none) :
    Calls Tryd.prog 34 #[.slice A n c] w fun e w' => Ex (fun _ => False) w w' ∧
      ((9000 < l.length ∧ ∃ v, e = .returned (.tuple #[zfr, v]) ∧ EC w' (fun j => w.heap.size ≤ j) [lay3] v 7) ∨
       (l.length ≤ 9000 ∧ pframe l = none ∧ ∃ v, e = .returned (.tuple #[zfr, v]) ∧ EC w' (fun j => w.heap.size ≤ j) [lay3, lay1] v 2) ∨
       (l.length ≤ 9000 ∧ ∃ f A' g o, pframe l = some f ∧ e = .returned (.tuple #[frv f (.slice A' f.b.length f.b.length), .nilIface]) ∧ w.heap.size ≤ g ∧ RB w' (fun j => j = g) (.slice A' f.b.length f.b.length) f.b ∧
         (f.b ≠ [] → A' = some ⟨g, o, none⟩ ∧ ∀ x, w'.frozen? ⟨g, x, none⟩ = false))) := by
  have hnl : n = l.length := by obtain ⟨_, _, _, e, _⟩ := hr; injection e
  subst hnl
  obtain ⟨pf, hpf⟩ : ∃ pf, pf = w.heap.size := ⟨_, rfl⟩
  have ha : Ex (fun _ => False) w (w.alloc (.cells #[.int .u8 0, .int .u8 0, .int .u8 0, .int .u8 0, .int .u8 0, .int .u8 0, .int .u8 0, .int .u8 0, .int .u8 0, .int .u8 0, .int .u8 0, .int .u8 0, .int .i64 0, .int .u16 0, .slice none 0 0] 76)) := (Ex.refl _ w).alloc _
  have hb : (w.alloc (.cells #[.int .u8 0, .int .u8 0, .int .u8 0, .int .u8 0, .int .u8 0, .int .u8 0, .int .u8 0, .int .u8 0, .int .u8 0, .int .u8 0, .int .u8 0, .int .u8 0, .int .i64 0, .int .u16 0, .slice none 0 0] 76)).heap[pf]? = some (.cells #[.int .u8 0, .int .u8 0, .int .u8 0, .int .u8 0, .int .u8 0, .int .u8 0, .int .u8 0, .int .u8 0, .int .u8 0, .int .u8 0, .int .u8 0, .int .u8 0, .int .i64 0, .int .u16 0, .slice none 0 0] 76) := by rw [hpf]; exact heap_alloc_new w _
  have hpf1 : w.heap.size ≤ pf := by omega
  have hpf2 : pf ≤ w.heap.size := by omega
  have HPF := Lib.hid hpf
  clear hpf
  have HR0 := Lib.hid (hr.alloc (.cells #[.int .u8 0, .int .u8 0, .int .u8 0, .int .u8 0, .int .u8 0, .int .u8 0, .int .u8 0, .int .u8 0, .int .u8 0, .int .u8 0, .int .u8 0, .int .u8 0, .int .i64 0, .int .u16 0, .slice none 0 0] 76))
  have HA := Lib.hid hA
  clear hr hA
  go_enter Tryd.func34, Tryd.ntmps34
  go_wp2_with fail
  have HXX := Lib.hid ha
  have HB := Lib.hid hb
  rw [← HPF.out]
  generalize w.alloc (.cells #[.int .u8 0, .int .u8 0, .int .u8 0, .int .u8 0, .int .u8 0, .int .u8 0, .int .u8 0, .int .u8 0, .int .u8 0, .int .u8 0, .int .u8 0, .int .u8 0, .int .i64 0, .int .u16 0, .slice none 0 0] 76) = w1 at HXX HB HR0 ⊢
  have hw1 := HXX.out.size
  clear ha hb
  refine (read_anyF P A l.length c l w1 HR0.out HA.out hl).mono ?_
  rintro e w2 ⟨p, g, rfl, hr2, hp2, hg2, hx2, hz2⟩
  have hf2 := (hx2.block pf (row_lt HB.out) id).trans HB.out
  have hpf2 := row_lt HB.out
  have hnp : pf ≠ p := by omega
  have hng : pf ≠ g := by omega
  have hgz : l ≠ [] → ∀ x, w2.frozen? ⟨g, x, none⟩ = false := fun hn => hz2 (List.length_pos_iff.2 hn)
  have hgl : l ≠ [] → g < w2.heap.size := fun hn => hr2.ltg (List.length_pos_iff.2 hn)
  have HX2 := Lib.hid (HXX.out.trans hx2)
  have HR2 := Lib.hid hr2
  have HF2 := Lib.hid hf2
  have HGZ := Lib.hid hgz
  have HGL := Lib.hid hgl
  have hp2l := hr2.lt
  have hw2 := hx2.size
  have hwp : w.heap.size ≤ p := by omega
  have hwg : w.heap.size ≤ g := by omega
  clear hr2 hx2 hz2 hf2 hgz hgl HXX HB HR0
  go_wp2_with fail
  obtain ⟨d0, d1, d2, d3, d4, d5, r, rfl⟩ := six (show 6 ≤ l.length by omega)
  refine (mac_any p g 0 d0 d1 d2 d3 d4 d5 r w2 HR2.out).mono ?_
  rintro e w3 ⟨rfl, hr3, hx3⟩
  have hf3 := (hx3.block pf (row_lt HF2.out) hnp).trans HF2.out
  have hw3 := hx3.size
  have c0 := row_cell (k := 0) (v := .int .u8 0) hf3 rfl
  have f0 := row_frozen hf3 0
  have c1 := row_cell (k := 1) (v := .int .u8 0) hf3 rfl
  have f1 := row_frozen hf3 1
  have c2 := row_cell (k := 2) (v := .int .u8 0) hf3 rfl
  have f2 := row_frozen hf3 2
  have c3 := row_cell (k := 3) (v := .int .u8 0) hf3 rfl
  have f3 := row_frozen hf3 3
  have c4 := row_cell (k := 4) (v := .int .u8 0) hf3 rfl
  have f4 := row_frozen hf3 4
  have c5 := row_cell (k := 5) (v := .int .u8 0) hf3 rfl
  have f5 := row_frozen hf3 5
  have hx4 := (((((((Ex.refl (fun j => j = pf) w3).setCell (p := ⟨pf, 0, none⟩) (.inl rfl) (.int .u8 (d0.toNat : Int))).setCell (p := ⟨pf, 1, none⟩) (.inl rfl) (.int .u8 (d1.toNat : Int))).setCell (p := ⟨pf, 2, none⟩) (.inl rfl) (.int .u8 (d2.toNat : Int))).setCell (p := ⟨pf, 3, none⟩) (.inl rfl) (.int .u8 (d3.toNat : Int))).setCell (p := ⟨pf, 4, none⟩) (.inl rfl) (.int .u8 (d4.toNat : Int))).setCell (p := ⟨pf, 5, none⟩) (.inl rfl) (.int .u8 (d5.toNat : Int)))
  have hf4 := (row_set (row_set (row_set (row_set (row_set (row_set hf3 0 (.int .u8 (d0.toNat : Int))) 1 (.int .u8 (d1.toNat : Int))) 2 (.int .u8 (d2.toNat : Int))) 3 (.int .u8 (d3.toNat : Int))) 4 (.int .u8 (d4.toNat : Int))) 5 (.int .u8 (d5.toNat : Int)))
  have HX3 := Lib.hid (HX2.out.andThen hx3 (fun i hi e => by omega))
  have HX4 := Lib.hid hx4
  have HF4 : Hid (((((((w3.setCell ⟨pf, 0, none⟩ (.int .u8 (d0.toNat : Int))).setCell ⟨pf, 1, none⟩ (.int .u8 (d1.toNat : Int))).setCell ⟨pf, 2, none⟩ (.int .u8 (d2.toNat : Int))).setCell ⟨pf, 3, none⟩ (.int .u8 (d3.toNat : Int))).setCell ⟨pf, 4, none⟩ (.int .u8 (d4.toNat : Int))).setCell ⟨pf, 5, none⟩ (.int .u8 (d5.toNat : Int))).heap[pf]? = some (.cells #[.int .u8 (d0.toNat : Int), .int .u8 (d1.toNat : Int), .int .u8 (d2.toNat : Int), .int .u8 (d3.toNat : Int), .int .u8 (d4.toNat : Int), .int .u8 (d5.toNat : Int), .int .u8 0, .int .u8 0, .int .u8 0, .int .u8 0, .int .u8 0, .int .u8 0, .int .i64 0, .int .u16 0, .slice none 0 0] 76)) := hf4
  have HR4 := Lib.hid (hr3.keep hx4 (fun e => hnp e.symm) (fun _ e => hng e.symm))
  have HZ3 := Lib.hid (fun x => (hx3.frozen (p := ⟨g, x, none⟩) (HGL.out (by simp)) HR2.out.apart).trans (HGZ.out (by simp) x))
  have HGL3 : g < w3.heap.size := Nat.lt_of_lt_of_le (HGL.out (by simp)) hw3
  have HZ4 := Lib.hid (fun x => (hx4.frozen (p := ⟨g, x, none⟩) HGL3 (fun e => hng e.symm)).trans (HZ3.out x))
  clear hx3 hr3 hf3 hx4 hf4 HX2 HR2 HF2 HZ3 HGZ HGL
  go_wp2_with fail
  clear c0 f0
  clear c1 f1
  clear c2 f2
  clear c3 f3
  clear c4 f4
  clear c5 f5
  generalize ((((((w3.setCell ⟨pf, 0, none⟩ (.int .u8 (d0.toNat : Int))).setCell ⟨pf, 1, none⟩ (.int .u8 (d1.toNat : Int))).setCell ⟨pf, 2, none⟩ (.int .u8 (d2.toNat : Int))).setCell ⟨pf, 3, none⟩ (.int .u8 (d3.toNat : Int))).setCell ⟨pf, 4, none⟩ (.int .u8 (d4.toNat : Int))).setCell ⟨pf, 5, none⟩ (.int .u8 (d5.toNat : Int))) = w4 at HX4 HF4 HR4 HZ4 ⊢
  have HX := Lib.hid (HX3.out.andThen HX4.out (fun i hi e => by omega))
  have hw4 := HX4.out.size
  clear HX3 HX4
  obtain ⟨s0, s1, s2, s3, s4, s5, r2, rfl⟩ := six (show 6 ≤ r.length by simp at hl2; omega)
  refine (mac_any p g _ s0 s1 s2 s3 s4 s5 r2 w4 HR4.out).mono ?_
  rintro e w5 ⟨rfl, hr5, hx5⟩
  have hf5 := (hx5.block pf (row_lt HF4.out) hnp).trans HF4.out
  have hw5 := hx5.size
  have c6 := row_cell (k := 6) (v := .int .u8 0) hf5 rfl
  have f6 := row_frozen hf5 6
  have c7 := row_cell (k := 7) (v := .int .u8 0) hf5 rfl
  have f7 := row_frozen hf5 7
  have c8 := row_cell (k := 8) (v := .int .u8 0) hf5 rfl
  have f8 := row_frozen hf5 8
  have c9 := row_cell (k := 9) (v := .int .u8 0) hf5 rfl
  have f9 := row_frozen hf5 9
  have c10 := row_cell (k := 10) (v := .int .u8 0) hf5 rfl
  have f10 := row_frozen hf5 10
  have c11 := row_cell (k := 11) (v := .int .u8 0) hf5 rfl
  have f11 := row_frozen hf5 11
  have hx6 := (((((((Ex.refl (fun j => j = pf) w5).setCell (p := ⟨pf, 6, none⟩) (.inl rfl) (.int .u8 (s0.toNat : Int))).setCell (p := ⟨pf, 7, none⟩) (.inl rfl) (.int .u8 (s1.toNat : Int))).setCell (p := ⟨pf, 8, none⟩) (.inl rfl) (.int .u8 (s2.toNat : Int))).setCell (p := ⟨pf, 9, none⟩) (.inl rfl) (.int .u8 (s3.toNat : Int))).setCell (p := ⟨pf, 10, none⟩) (.inl rfl) (.int .u8 (s4.toNat : Int))).setCell (p := ⟨pf, 11, none⟩) (.inl rfl) (.int .u8 (s5.toNat : Int)))
  have hf6 := (row_set (row_set (row_set (row_set (row_set (row_set hf5 6 (.int .u8 (s0.toNat : Int))) 7 (.int .u8 (s1.toNat : Int))) 8 (.int .u8 (s2.toNat : Int))) 9 (.int .u8 (s3.toNat : Int))) 10 (.int .u8 (s4.toNat : Int))) 11 (.int .u8 (s5.toNat : Int)))
  have HX5 := Lib.hid (HX.out.andThen hx5 (fun i hi e => by omega))
  have HX6 := Lib.hid hx6
  have HF6 : Hid (((((((w5.setCell ⟨pf, 6, none⟩ (.int .u8 (s0.toNat : Int))).setCell ⟨pf, 7, none⟩ (.int .u8 (s1.toNat : Int))).setCell ⟨pf, 8, none⟩ (.int .u8 (s2.toNat : Int))).setCell ⟨pf, 9, none⟩ (.int .u8 (s3.toNat : Int))).setCell ⟨pf, 10, none⟩ (.int .u8 (s4.toNat : Int))).setCell ⟨pf, 11, none⟩ (.int .u8 (s5.toNat : Int))).heap[pf]? = some (.cells #[.int .u8 (d0.toNat : Int), .int .u8 (d1.toNat : Int), .int .u8 (d2.toNat : Int), .int .u8 (d3.toNat : Int), .int .u8 (d4.toNat : Int), .int .u8 (d5.toNat : Int), .int .u8 (s0.toNat : Int), .int .u8 (s1.toNat : Int), .int .u8 (s2.toNat : Int), .int .u8 (s3.toNat : Int), .int .u8 (s4.toNat : Int), .int .u8 (s5.toNat : Int), .int .i64 0, .int .u16 0, .slice none 0 0] 76)) := hf6
  have HR6 := Lib.hid (hr5.keep hx6 (fun e => hnp e.symm) (fun _ e => hng e.symm))
  have HZ5 := Lib.hid (fun x => (hx5.frozen (p := ⟨g, x, none⟩) (show g < w4.heap.size by omega) HR4.out.apart).trans (HZ4.out x))
  have HZ6 := Lib.hid (fun x => (hx6.frozen (p := ⟨g, x, none⟩) (show g < w5.heap.size by omega) (fun e => hng e.symm)).trans (HZ5.out x))
  have hpw4 := row_lt HF4.out
  clear hx5 hr5 hf5 hx6 hf6 HX HR4 HF4 HZ4 HZ5
  go_wp2_with fail
  clear c6 f6
  clear c7 f7
  clear c8 f8
  clear c9 f9
  clear c10 f10
  clear c11 f11
  generalize ((((((w5.setCell ⟨pf, 6, none⟩ (.int .u8 (s0.toNat : Int))).setCell ⟨pf, 7, none⟩ (.int .u8 (s1.toNat : Int))).setCell ⟨pf, 8, none⟩ (.int .u8 (s2.toNat : Int))).setCell ⟨pf, 9, none⟩ (.int .u8 (s3.toNat : Int))).setCell ⟨pf, 10, none⟩ (.int .u8 (s4.toNat : Int))).setCell ⟨pf, 11, none⟩ (.int .u8 (s5.toNat : Int))) = w6 at HX6 HF6 HR6 HZ6 ⊢
  have HX := Lib.hid (HX5.out.andThen HX6.out (fun i hi e => by omega))
  have hw6 := HX6.out.size
  clear HX5 HX6
  refine (tag_any p g _ pf r2 #[.int .u8 (d0.toNat : Int), .int .u8 (d1.toNat : Int), .int .u8 (d2.toNat : Int), .int .u8 (d3.toNat : Int), .int .u8 (d4.toNat : Int), .int .u8 (d5.toNat : Int), .int .u8 (s0.toNat : Int), .int .u8 (s1.toNat : Int), .int .u8 (s2.toNat : Int), .int .u8 (s3.toNat : Int), .int .u8 (s4.toNat : Int), .int .u8 (s5.toNat : Int), .int .i64 0, .int .u16 0, .slice none 0 0] w6 HR6.out HF6.out rfl hnp hng).mono ?_
  rintro e w7 ⟨hx7, hcase⟩
  have hw7 := hx7.size
  have hpw6 := row_lt HF6.out
  have HXX := Lib.hid (HX.out.andThen hx7 (fun i hi e => by rcases e with e | e <;> omega))
  rcases hcase with ⟨vl, ty, r3, o', hpt, rfl, hr7, hf7⟩ | ⟨hpt, hfx, v7, rfl, he7⟩
  · exact absurd hpn (by simp [pframe, hpt])
  · have hec := he7
    obtain ⟨cs7, HF7, hcs7⟩ := hfx
    obtain ⟨ty7, y7, rfl⟩ := he7.shape
    have HE7 := Lib.hid hec
    clear hec he7 hx7 HX HR6 HF6 HZ6
    go_wp2_with fail
    refine (ewrong_any _ [lay1] 2 _ w7 HE7.out).mono ?_
    rintro e w8 ⟨v8, rfl, he8, hx8⟩
    have hf8 := (hx8.block pf (row_lt HF7) id).trans HF7
    obtain ⟨x0, c0⟩ : ∃ x, w8.cell? ⟨pf, 0, none⟩ = some x := ⟨_, row_cell hf8 (Array.getElem?_eq_getElem (by omega))⟩
    have f0 := row_frozen hf8 0
    obtain ⟨x1, c1⟩ : ∃ x, w8.cell? ⟨pf, 1, none⟩ = some x := ⟨_, row_cell hf8 (Array.getElem?_eq_getElem (by omega))⟩
    have f1 := row_frozen hf8 1
    obtain ⟨x2, c2⟩ : ∃ x, w8.cell? ⟨pf, 2, none⟩ = some x := ⟨_, row_cell hf8 (Array.getElem?_eq_getElem (by omega))⟩
    have f2 := row_frozen hf8 2
    obtain ⟨x3, c3⟩ : ∃ x, w8.cell? ⟨pf, 3, none⟩ = some x := ⟨_, row_cell hf8 (Array.getElem?_eq_getElem (by omega))⟩
    have f3 := row_frozen hf8 3
    obtain ⟨x4, c4⟩ : ∃ x, w8.cell? ⟨pf, 4, none⟩ = some x := ⟨_, row_cell hf8 (Array.getElem?_eq_getElem (by omega))⟩
    have f4 := row_frozen hf8 4
    obtain ⟨x5, c5⟩ : ∃ x, w8.cell? ⟨pf, 5, none⟩ = some x := ⟨_, row_cell hf8 (Array.getElem?_eq_getElem (by omega))⟩
    have f5 := row_frozen hf8 5
    obtain ⟨x6, c6⟩ : ∃ x, w8.cell? ⟨pf, 6, none⟩ = some x := ⟨_, row_cell hf8 (Array.getElem?_eq_getElem (by omega))⟩
    have f6 := row_frozen hf8 6
    obtain ⟨x7, c7⟩ : ∃ x, w8.cell? ⟨pf, 7, none⟩ = some x := ⟨_, row_cell hf8 (Array.getElem?_eq_getElem (by omega))⟩
    have f7 := row_frozen hf8 7
    obtain ⟨x8, c8⟩ : ∃ x, w8.cell? ⟨pf, 8, none⟩ = some x := ⟨_, row_cell hf8 (Array.getElem?_eq_getElem (by omega))⟩
    have f8 := row_frozen hf8 8
    obtain ⟨x9, c9⟩ : ∃ x, w8.cell? ⟨pf, 9, none⟩ = some x := ⟨_, row_cell hf8 (Array.getElem?_eq_getElem (by omega))⟩
    have f9 := row_frozen hf8 9
    obtain ⟨x10, c10⟩ : ∃ x, w8.cell? ⟨pf, 10, none⟩ = some x := ⟨_, row_cell hf8 (Array.getElem?_eq_getElem (by omega))⟩
    have f10 := row_frozen hf8 10
    obtain ⟨x11, c11⟩ : ∃ x, w8.cell? ⟨pf, 11, none⟩ = some x := ⟨_, row_cell hf8 (Array.getElem?_eq_getElem (by omega))⟩
    have f11 := row_frozen hf8 11
    obtain ⟨x12, c12⟩ : ∃ x, w8.cell? ⟨pf, 12, none⟩ = some x := ⟨_, row_cell hf8 (Array.getElem?_eq_getElem (by omega))⟩
    have f12 := row_frozen hf8 12
    obtain ⟨x13, c13⟩ : ∃ x, w8.cell? ⟨pf, 13, none⟩ = some x := ⟨_, row_cell hf8 (Array.getElem?_eq_getElem (by omega))⟩
    have f13 := row_frozen hf8 13
    obtain ⟨x14, c14⟩ : ∃ x, w8.cell? ⟨pf, 14, none⟩ = some x := ⟨_, row_cell hf8 (Array.getElem?_eq_getElem (by omega))⟩
    have f14 := row_frozen hf8 14
    have HX9 := Lib.hid ((((((((((((((((Ex.refl (fun j => j = pf) w8).setCell (p := ⟨pf, 0, none⟩) (.inl rfl) (.int .u8 0)).setCell (p := ⟨pf, 1, none⟩) (.inl rfl) (.int .u8 0)).setCell (p := ⟨pf, 2, none⟩) (.inl rfl) (.int .u8 0)).setCell (p := ⟨pf, 3, none⟩) (.inl rfl) (.int .u8 0)).setCell (p := ⟨pf, 4, none⟩) (.inl rfl) (.int .u8 0)).setCell (p := ⟨pf, 5, none⟩) (.inl rfl) (.int .u8 0)).setCell (p := ⟨pf, 6, none⟩) (.inl rfl) (.int .u8 0)).setCell (p := ⟨pf, 7, none⟩) (.inl rfl) (.int .u8 0)).setCell (p := ⟨pf, 8, none⟩) (.inl rfl) (.int .u8 0)).setCell (p := ⟨pf, 9, none⟩) (.inl rfl) (.int .u8 0)).setCell (p := ⟨pf, 10, none⟩) (.inl rfl) (.int .u8 0)).setCell (p := ⟨pf, 11, none⟩) (.inl rfl) (.int .u8 0)).setCell (p := ⟨pf, 12, none⟩) (.inl rfl) (.int .i64 0)).setCell (p := ⟨pf, 13, none⟩) (.inl rfl) (.int .u16 0)).setCell (p := ⟨pf, 14, none⟩) (.inl rfl) (.slice none 0 0))
    have HX8 := Lib.hid (HXX.out.trans hx8)
    have HE8 := Lib.hid he8
    have hsz8 := hx8.size
    clear hf8 hx8 he8
    go_wp2_with fail
    (try simp only [Exit.inBlock, Exit.then])
    refine bodyPost_ret (v := .tuple #[.agg #[.int .u8 0, .int .u8 0, .int .u8 0, .int .u8 0, .int .u8 0, .int .u8 0, .int .u8 0, .int .u8 0, .int .u8 0, .int .u8 0, .int .u8 0, .int .u8 0, .int .i64 0, .int .u16 0, .slice none 0 0], v8]) ?_ rfl ⟨HX8.out.andThen HX9.out (fun i hi e => by omega), .inr (.inl ⟨hle, by simp [pframe, hpt], v8, rfl, (EC.mono (fun j hj => by rcases hj with h | h <;> omega) (HE8.out.keep HX9.out (fun j hj e => by rcases hj with h | h <;> omega)))⟩)⟩
    rw [results_cell_tmp rfl]
    go_simp

set_option maxRecDepth 100000 in
set_option maxHeartbeats 4000000 in
theorem parse_ok (P : Nat → Prop) (A : Option Addr) (n c : Nat) (l : List UInt8) (w : World) (hr : RB w P (.slice A n c) l) (hA : A = none → c = 0) (hl : l.length ≤ 1000000000) (hle : l.length ≤ 9000) (hl1 : 6 ≤ l.length) (hl2 : 12 ≤ l.length) (hpn : pframe l ≠ none) :
    Calls Tryd.prog 34 #[.slice A n c] w fun e w' => Ex (fun _ => False) w w' ∧
      ((9000 < l.length ∧ ∃ v, e = .returned (.tuple #[zfr, v]) ∧ EC w' (fun j => w.heap.size ≤ j) [lay3] v 7) ∨
       (l.length ≤ 9000 ∧ pframe l = none ∧ ∃ v, e = .returned (.tuple #[zfr, v]) ∧ EC w' (fun j => w.heap.size ≤ j) [lay3, lay1] v 2) ∨
       (l.length ≤ 9000 ∧ ∃ f A' g o, pframe l = some f ∧ e = .returned (.tuple #[frv f (.slice A' f.b.length f.b.length), .nilIface]) ∧ w.heap.size ≤ g ∧ RB w' (fun j => j = g) (.slice A' f.b.length f.b.length) f.b ∧
         (f.b ≠ [] → A' = some ⟨g, o, none⟩ ∧ ∀ x, w'.frozen? ⟨g, x, none⟩ = false))) := by
  have hnl : n = l.length := by obtain ⟨_, _, _, e, _⟩ := hr; injection e
  subst hnl
  obtain ⟨pf, hpf⟩ : ∃ pf, pf = w.heap.size := ⟨_, rfl⟩
  have ha : Ex (fun _ => False) w (w.alloc (.cells #[.int .u8 0, .int .u8 0, .int .u8 0, .int .u8 0, .int .u8 0, .int .u8 0, .int .u8 0, .int .u8 0, .int .u8 0, .int .u8 0, .int .u8 0, .int .u8 0, .int .i64 0, .int .u16 0, .slice none 0 0] 76)) := (Ex.refl _ w).alloc _
  have hb : (w.alloc (.cells #[.int .u8 0, .int .u8 0, .int .u8 0, .int .u8 0, .int .u8 0, .int .u8 0, .int .u8 0, .int .u8 0, .int .u8 0, .int .u8 0, .int .u8 0, .int .u8 0, .int .i64 0, .int .u16 0, .slice none 0 0] 76)).heap[pf]? = some (.cells #[.int .u8 0, .int .u8 0, .int .u8 0, .int .u8 0, .int .u8 0, .int .u8 0, .int .u8 0, .int .u8 0, .int .u8 0, .int .u8 0, .int .u8 0, .int .u8 0, .int .i64 0, .int .u16 0, .slice none 0 0] 76) := by rw [hpf]; exact heap_alloc_new w _
  have hpf1 : w.heap.size ≤ pf := by omega
  have hpf2 : pf ≤ w.heap.size := by omega
  have HPF := Lib.hid hpf
  clear hpf
  have HR0 := Lib.hid (hr.alloc (.cells #[.int .u8 0, .int .u8 0, .int .u8 0, .int .u8 0, .int .u8 0, .int .u8 0, .int .u8 0, .int .u8 0, .int .u8 0, .int .u8 0, .int .u8 0, .int .u8 0, .int .i64 0, .int .u16 0, .slice none 0 0] 76))
  have HA := Lib.hid hA
  clear hr hA
  go_enter Tryd.func34, Tryd.ntmps34
  go_wp2_with fail
  have HXX := Lib.hid ha
  have HB := Lib.hid hb
  rw [← HPF.out]
  generalize w.alloc (.cells #[.int .u8 0, .int .u8 0, .int .u8 0, .int .u8 0, .int .u8 0, .int .u8 0, .int .u8 0, .int .u8 0, .int .u8 0, .int .u8 0, .int .u8 0, .int .u8 0, .int .i64 0, .int .u16 0, .slice none 0 0] 76) = w1 at HXX HB HR0 ⊢
  have hw1 := HXX.out.size
  clear ha hb
  refine (read_anyF P A l.length c l w1 HR0.out HA.out hl).mono ?_
  rintro e w2 ⟨p, g, rfl, hr2, hp2, hg2, hx2, hz2⟩
  have hf2 := (hx2.block pf (row_lt HB.out) id).trans HB.out
  have hpf2 := row_lt HB.out
  have hnp : pf ≠ p := by omega
  have hng : pf ≠ g := by omega
  have hgz : l ≠ [] → ∀ x, w2.frozen? ⟨g, x, none⟩ = false := fun hn => hz2 (List.length_pos_iff.2 hn)
  have hgl : l ≠ [] → g < w2.heap.size := fun hn => hr2.ltg (List.length_pos_iff.2 hn)
  have HX2 := Lib.hid (HXX.out.trans hx2)
  have HR2 := Lib.hid hr2
  have HF2 := Lib.hid hf2
  have HGZ := Lib.hid hgz
  have HGL := Lib.hid hgl
  have hp2l := hr2.lt
  have hw2 := hx2.size
  have hwp : w.heap.size ≤ p := by omega
  have hwg : w.heap.size ≤ g := by omega
  clear hr2 hx2 hz2 hf2 hgz hgl HXX HB HR0
  go_wp2_with fail
  obtain ⟨d0, d1, d2, d3, d4, d5, r, rfl⟩ := six (show 6 ≤ l.length by omega)
  refine (mac_any p g 0 d0 d1 d2 d3 d4 d5 r w2 HR2.out).mono ?_
  rintro e w3 ⟨rfl, hr3, hx3⟩
  have hf3 := (hx3.block pf (row_lt HF2.out) hnp).trans HF2.out
  have hw3 := hx3.size
  have c0 := row_cell (k := 0) (v := .int .u8 0) hf3 rfl
  have f0 := row_frozen hf3 0
  have c1 := row_cell (k := 1) (v := .int .u8 0) hf3 rfl
  have f1 := row_frozen hf3 1
  have c2 := row_cell (k := 2) (v := .int .u8 0) hf3 rfl
  have f2 := row_frozen hf3 2
  have c3 := row_cell (k := 3) (v := .int .u8 0) hf3 rfl
  have f3 := row_frozen hf3 3
  have c4 := row_cell (k := 4) (v := .int .u8 0) hf3 rfl
  have f4 := row_frozen hf3 4
  have c5 := row_cell (k := 5) (v := .int .u8 0) hf3 rfl
  have f5 := row_frozen hf3 5
  have hx4 := (((((((Ex.refl (fun j => j = pf) w3).setCell (p := ⟨pf, 0, none⟩) (.inl rfl) (.int .u8 (d0.toNat : Int))).setCell (p := ⟨pf, 1, none⟩) (.inl rfl) (.int .u8 (d1.toNat : Int))).setCell (p := ⟨pf, 2, none⟩) (.inl rfl) (.int .u8 (d2.toNat : Int))).setCell (p := ⟨pf, 3, none⟩) (.inl rfl) (.int .u8 (d3.toNat : Int))).setCell (p := ⟨pf, 4, none⟩) (.inl rfl) (.int .u8 (d4.toNat : Int))).setCell (p := ⟨pf, 5, none⟩) (.inl rfl) (.int .u8 (d5.toNat : Int)))
  have hf4 := (row_set (row_set (row_set (row_set (row_set (row_set hf3 0 (.int .u8 (d0.toNat : Int))) 1 (.int .u8 (d1.toNat : Int))) 2 (.int .u8 (d2.toNat : Int))) 3 (.int .u8 (d3.toNat : Int))) 4 (.int .u8 (d4.toNat : Int))) 5 (.int .u8 (d5.toNat : Int)))
  have HX3 := Lib.hid (HX2.out.andThen hx3 (fun i hi e => by omega))
  have HX4 := Lib.hid hx4
  have HF4 : Hid (((((((w3.setCell ⟨pf, 0, none⟩ (.int .u8 (d0.toNat : Int))).setCell ⟨pf, 1, none⟩ (.int .u8 (d1.toNat : Int))).setCell ⟨pf, 2, none⟩ (.int .u8 (d2.toNat : Int))).setCell ⟨pf, 3, none⟩ (.int .u8 (d3.toNat : Int))).setCell ⟨pf, 4, none⟩ (.int .u8 (d4.toNat : Int))).setCell ⟨pf, 5, none⟩ (.int .u8 (d5.toNat : Int))).heap[pf]? = some (.cells #[.int .u8 (d0.toNat : Int), .int .u8 (d1.toNat : Int), .int .u8 (d2.toNat : Int), .int .u8 (d3.toNat : Int), .int .u8 (d4.toNat : Int), .int .u8 (d5.toNat : Int), .int .u8 0, .int .u8 0, .int .u8 0, .int .u8 0, .int .u8 0, .int .u8 0, .int .i64 0, .int .u16 0, .slice none 0 0] 76)) := hf4
  have HR4 := Lib.hid (hr3.keep hx4 (fun e => hnp e.symm) (fun _ e => hng e.symm))
  have HZ3 := Lib.hid (fun x => (hx3.frozen (p := ⟨g, x, none⟩) (HGL.out (by simp)) HR2.out.apart).trans (HGZ.out (by simp) x))
  have HGL3 : g < w3.heap.size := Nat.lt_of_lt_of_le (HGL.out (by simp)) hw3
  have HZ4 := Lib.hid (fun x => (hx4.frozen (p := ⟨g, x, none⟩) HGL3 (fun e => hng e.symm)).trans (HZ3.out x))
  clear hx3 hr3 hf3 hx4 hf4 HX2 HR2 HF2 HZ3 HGZ HGL
  go_wp2_with fail
  clear c0 f0
  clear c1 f1
  clear c2 f2
  clear c3 f3
  clear c4 f4
  clear c5 f5
  generalize ((((((w3.setCell ⟨pf, 0, none⟩ (.int .u8 (d0.toNat : Int))).setCell ⟨pf, 1, none⟩ (.int .u8 (d1.toNat : Int))).setCell ⟨pf, 2, none⟩ (.int .u8 (d2.toNat : Int))).setCell ⟨pf, 3, none⟩ (.int .u8 (d3.toNat : Int))).setCell ⟨pf, 4, none⟩ (.int .u8 (d4.toNat : Int))).setCell ⟨pf, 5, none⟩ (.int .u8 (d5.toNat : Int))) = w4 at HX4 HF4 HR4 HZ4 ⊢
  have HX := Lib.hid (HX3.out.andThen HX4.out (fun i hi e => by omega))
  have hw4 := HX4.out.size
  clear HX3 HX4
  obtain ⟨s0, s1, s2, s3, s4, s5, r2, rfl⟩ := six (show 6 ≤ r.length by simp at hl2; omega)
  refine (mac_any p g _ s0 s1 s2 s3 s4 s5 r2 w4 HR4.out).mono ?_
  rintro e w5 ⟨rfl, hr5, hx5⟩
  have hf5 := (hx5.block pf (row_lt HF4.out) hnp).trans HF4.out
  have hw5 := hx5.size
  have c6 := row_cell (k := 6) (v := .int .u8 0) hf5 rfl
  have f6 := row_frozen hf5 6
  have c7 := row_cell (k := 7) (v := .int .u8 0) hf5 rfl
  have f7 := row_frozen hf5 7
  have c8 := row_cell (k := 8) (v := .int .u8 0) hf5 rfl
  have f8 := row_frozen hf5 8
  have c9 := row_cell (k := 9) (v := .int .u8 0) hf5 rfl
  have f9 := row_frozen hf5 9
  have c10 := row_cell (k := 10) (v := .int .u8 0) hf5 rfl
  have f10 := row_frozen hf5 10
  have c11 := row_cell (k := 11) (v := .int .u8 0) hf5 rfl
  have f11 := row_frozen hf5 11
  have hx6 := (((((((Ex.refl (fun j => j = pf) w5).setCell (p := ⟨pf, 6, none⟩) (.inl rfl) (.int .u8 (s0.toNat : Int))).setCell (p := ⟨pf, 7, none⟩) (.inl rfl) (.int .u8 (s1.toNat : Int))).setCell (p := ⟨pf, 8, none⟩) (.inl rfl) (.int .u8 (s2.toNat : Int))).setCell (p := ⟨pf, 9, none⟩) (.inl rfl) (.int .u8 (s3.toNat : Int))).setCell (p := ⟨pf, 10, none⟩) (.inl rfl) (.int .u8 (s4.toNat : Int))).setCell (p := ⟨pf, 11, none⟩) (.inl rfl) (.int .u8 (s5.toNat : Int)))
  have hf6 := (row_set (row_set (row_set (row_set (row_set (row_set hf5 6 (.int .u8 (s0.toNat : Int))) 7 (.int .u8 (s1.toNat : Int))) 8 (.int .u8 (s2.toNat : Int))) 9 (.int .u8 (s3.toNat : Int))) 10 (.int .u8 (s4.toNat : Int))) 11 (.int .u8 (s5.toNat : Int)))
  have HX5 := Lib.hid (HX.out.andThen hx5 (fun i hi e => by omega))
  have HX6 := Lib.hid hx6
  have HF6 : Hid (((((((w5.setCell ⟨pf, 6, none⟩ (.int .u8 (s0.toNat : Int))).setCell ⟨pf, 7, none⟩ (.int .u8 (s1.toNat : Int))).setCell ⟨pf, 8, none⟩ (.int .u8 (s2.toNat : Int))).setCell ⟨pf, 9, none⟩ (.int .u8 (s3.toNat : Int))).setCell ⟨pf, 10, none⟩ (.int .u8 (s4.toNat : Int))).setCell ⟨pf, 11, none⟩ (.int .u8 (s5.toNat : Int))).heap[pf]? = some (.cells #[.int .u8 (d0.toNat : Int), .int .u8 (d1.toNat : Int), .int .u8 (d2.toNat : Int), .int .u8 (d3.toNat : Int), .int .u8 (d4.toNat : Int), .int .u8 (d5.toNat : Int), .int .u8 (s0.toNat : Int), .int .u8 (s1.toNat : Int), .int .u8 (s2.toNat : Int), .int .u8 (s3.toNat : Int), .int .u8 (s4.toNat : Int), .int .u8 (s5.toNat : Int), .int .i64 0, .int .u16 0, .slice none 0 0] 76)) := hf6
  have HR6 := Lib.hid (hr5.keep hx6 (fun e => hnp e.symm) (fun _ e => hng e.symm))
  have HZ5 := Lib.hid (fun x => (hx5.frozen (p := ⟨g, x, none⟩) (show g < w4.heap.size by omega) HR4.out.apart).trans (HZ4.out x))
  have HZ6 := Lib.hid (fun x => (hx6.frozen (p := ⟨g, x, none⟩) (show g < w5.heap.size by omega) (fun e => hng e.symm)).trans (HZ5.out x))
  have hpw4 := row_lt HF4.out
  clear hx5 hr5 hf5 hx6 hf6 HX HR4 HF4 HZ4 HZ5
  go_wp2_with fail
  clear c6 f6
  clear c7 f7
  clear c8 f8
  clear c9 f9
  clear c10 f10
  clear c11 f11
  generalize ((((((w5.setCell ⟨pf, 6, none⟩ (.int .u8 (s0.toNat : Int))).setCell ⟨pf, 7, none⟩ (.int .u8 (s1.toNat : Int))).setCell ⟨pf, 8, none⟩ (.int .u8 (s2.toNat : Int))).setCell ⟨pf, 9, none⟩ (.int .u8 (s3.toNat : Int))).setCell ⟨pf, 10, none⟩ (.int .u8 (s4.toNat : Int))).setCell ⟨pf, 11, none⟩ (.int .u8 (s5.toNat : Int))) = w6 at HX6 HF6 HR6 HZ6 ⊢
  have HX := Lib.hid (HX5.out.andThen HX6.out (fun i hi e => by omega))
  have hw6 := HX6.out.size
  clear HX5 HX6
  refine (tag_any p g _ pf r2 #[.int .u8 (d0.toNat : Int), .int .u8 (d1.toNat : Int), .int .u8 (d2.toNat : Int), .int .u8 (d3.toNat : Int), .int .u8 (d4.toNat : Int), .int .u8 (d5.toNat : Int), .int .u8 (s0.toNat : Int), .int .u8 (s1.toNat : Int), .int .u8 (s2.toNat : Int), .int .u8 (s3.toNat : Int), .int .u8 (s4.toNat : Int), .int .u8 (s5.toNat : Int), .int .i64 0, .int .u16 0, .slice none 0 0] w6 HR6.out HF6.out rfl hnp hng).mono ?_
  rintro e w7 ⟨hx7, hcase⟩
  have hw7 := hx7.size
  have hpw6 := row_lt HF6.out
  have HXX := Lib.hid (HX.out.andThen hx7 (fun i hi e => by rcases e with e | e <;> omega))
  rcases hcase with ⟨vl, ty, r3, o', hpt, rfl, hr7, hf7⟩ | ⟨hpt, hfx, v7, rfl, he7⟩
  · have HZ7 := Lib.hid (fun x => (hx7.frozen (p := ⟨g, x, none⟩) (show g < w6.heap.size by omega) (fun e => by rcases e with e | e; exact HR6.out.apart e; exact hng e.symm)).trans (HZ6.out x))
    have HF7 : Hid (w7.heap[pf]? = some (.cells #[.int .u8 (d0.toNat : Int), .int .u8 (d1.toNat : Int), .int .u8 (d2.toNat : Int), .int .u8 (d3.toNat : Int), .int .u8 (d4.toNat : Int), .int .u8 (d5.toNat : Int), .int .u8 (s0.toNat : Int), .int .u8 (s1.toNat : Int), .int .u8 (s2.toNat : Int), .int .u8 (s3.toNat : Int), .int .u8 (s4.toNat : Int), .int .u8 (s5.toNat : Int), .int .i64 vl, .int .u16 (ty : Int), .slice none 0 0] 76)) := hf7
    have HR7 := Lib.hid hr7
    have HPT := Lib.hid hpt
    clear hx7 hr7 hf7 hpt HX HR6 HF6 HZ6
    go_wp2_with fail
    refine (rest_any p g o' r3 w7 HR7.out).mono ?_
    rintro e w8 ⟨u8, rfl, A8, rfl, hA8, hb8, hr8, hx8⟩
    rw [List.take_length] at hb8
    have hf8 := (hx8.block pf (row_lt HF7.out) hnp).trans HF7.out
    have HZ8 := Lib.hid (fun x => (hx8.frozen (p := ⟨g, x, none⟩) (show g < w7.heap.size by omega) HR7.out.apart).trans (HZ7.out x))
    have hw8 := hx8.size
    have HX8 := Lib.hid (HXX.out.andThen hx8 (fun i hi e => by omega))
    have c0 := row_cell (k := 0) (v := .int .u8 (d0.toNat : Int)) hf8 rfl
    have f0 := row_frozen hf8 0
    have c1 := row_cell (k := 1) (v := .int .u8 (d1.toNat : Int)) hf8 rfl
    have f1 := row_frozen hf8 1
    have c2 := row_cell (k := 2) (v := .int .u8 (d2.toNat : Int)) hf8 rfl
    have f2 := row_frozen hf8 2
    have c3 := row_cell (k := 3) (v := .int .u8 (d3.toNat : Int)) hf8 rfl
    have f3 := row_frozen hf8 3
    have c4 := row_cell (k := 4) (v := .int .u8 (d4.toNat : Int)) hf8 rfl
    have f4 := row_frozen hf8 4
    have c5 := row_cell (k := 5) (v := .int .u8 (d5.toNat : Int)) hf8 rfl
    have f5 := row_frozen hf8 5
    have c6 := row_cell (k := 6) (v := .int .u8 (s0.toNat : Int)) hf8 rfl
    have f6 := row_frozen hf8 6
    have c7 := row_cell (k := 7) (v := .int .u8 (s1.toNat : Int)) hf8 rfl
    have f7 := row_frozen hf8 7
    have c8 := row_cell (k := 8) (v := .int .u8 (s2.toNat : Int)) hf8 rfl
    have f8 := row_frozen hf8 8
    have c9 := row_cell (k := 9) (v := .int .u8 (s3.toNat : Int)) hf8 rfl
    have f9 := row_frozen hf8 9
    have c10 := row_cell (k := 10) (v := .int .u8 (s4.toNat : Int)) hf8 rfl
    have f10 := row_frozen hf8 10
    have c11 := row_cell (k := 11) (v := .int .u8 (s5.toNat : Int)) hf8 rfl
    have f11 := row_frozen hf8 11
    have c12 := row_cell (k := 12) (v := .int .i64 vl) hf8 rfl
    have f12 := row_frozen hf8 12
    have c13 := row_cell (k := 13) (v := .int .u16 (ty : Int)) hf8 rfl
    have f13 := row_frozen hf8 13
    have c14 := row_cell (k := 14) (v := .slice none 0 0) hf8 rfl
    have f14 := row_frozen hf8 14
    have hx9 : Ex (fun j => j = pf) w8 (w8.setCell ⟨pf, 14, none⟩ (.slice A8 r3.length r3.length)) := (Ex.refl (fun j => j = pf) w8).setCell (p := ⟨pf, 14, none⟩) (.inl rfl) _
    have HX9 := Lib.hid (((((((((((((((((Ex.refl (fun j => j = pf) (w8.setCell ⟨pf, 14, none⟩ (.slice A8 r3.length r3.length))).setCell (p := ⟨pf, 0, none⟩) (.inl rfl) (.int .u8 (d0.toNat : Int))).setCell (p := ⟨pf, 1, none⟩) (.inl rfl) (.int .u8 (d1.toNat : Int))).setCell (p := ⟨pf, 2, none⟩) (.inl rfl) (.int .u8 (d2.toNat : Int))).setCell (p := ⟨pf, 3, none⟩) (.inl rfl) (.int .u8 (d3.toNat : Int))).setCell (p := ⟨pf, 4, none⟩) (.inl rfl) (.int .u8 (d4.toNat : Int))).setCell (p := ⟨pf, 5, none⟩) (.inl rfl) (.int .u8 (d5.toNat : Int))).setCell (p := ⟨pf, 6, none⟩) (.inl rfl) (.int .u8 (s0.toNat : Int))).setCell (p := ⟨pf, 7, none⟩) (.inl rfl) (.int .u8 (s1.toNat : Int))).setCell (p := ⟨pf, 8, none⟩) (.inl rfl) (.int .u8 (s2.toNat : Int))).setCell (p := ⟨pf, 9, none⟩) (.inl rfl) (.int .u8 (s3.toNat : Int))).setCell (p := ⟨pf, 10, none⟩) (.inl rfl) (.int .u8 (s4.toNat : Int))).setCell (p := ⟨pf, 11, none⟩) (.inl rfl) (.int .u8 (s5.toNat : Int))).setCell (p := ⟨pf, 12, none⟩) (.inl rfl) (.int .i64 vl)).setCell (p := ⟨pf, 13, none⟩) (.inl rfl) (.int .u16 (ty : Int))).setCell (p := ⟨pf, 14, none⟩) (.inl rfl) (.slice A8 r3.length r3.length)))
    have HX89 := Lib.hid hx9
    have HB8 := Lib.hid hb8
    have HA8 := Lib.hid hA8
    clear hx8 hr8 hb8 hA8 hx9 hf8 HXX HR7 HF7 HZ7
    go_wp2_with fail
    (try simp only [Exit.inBlock, Exit.then])
    have hxx := HX89.out.trans HX9.out
    refine bodyPost_ret (v := .tuple #[.agg #[.int .u8 (d0.toNat : Int), .int .u8 (d1.toNat : Int), .int .u8 (d2.toNat : Int), .int .u8 (d3.toNat : Int), .int .u8 (d4.toNat : Int), .int .u8 (d5.toNat : Int), .int .u8 (s0.toNat : Int), .int .u8 (s1.toNat : Int), .int .u8 (s2.toNat : Int), .int .u8 (s3.toNat : Int), .int .u8 (s4.toNat : Int), .int .u8 (s5.toNat : Int), .int .i64 vl, .int .u16 (ty : Int), .slice A8 r3.length r3.length], .nilIface]) ?_ rfl ⟨HX8.out.andThen hxx (fun i hi e => by omega), .inr (.inr ⟨hle, ⟨[d0, d1, d2, d3, d4, d5], [s0, s1, s2, s3, s4, s5], vl, ty, r3⟩, A8, g, o', by simp [pframe, HPT.out], rfl, hwg, HB8.out.keep hxx (fun k _ e e' => hng (by omega)), fun hn => ⟨HA8.out.resolve_left hn, fun x => (hxx.frozen (p := ⟨g, x, none⟩) (show g < w8.heap.size by omega) (fun e => hng e.symm)).trans (HZ8.out x)⟩⟩)⟩
    rw [results_cell_tmp rfl]
    go_simp
  · exact absurd (by simp [pframe, hpt]) hpn

theorem parse_any (P : Nat → Prop) (A : Option Addr) (n c : Nat) (l : List UInt8) (w : World) (hr : RB w P (.slice A n c) l) (hA : A = none → c = 0) (hl : l.length ≤ 1000000000) :
    Calls Tryd.prog 34 #[.slice A n c] w fun e w' => Ex (fun _ => False) w w' ∧
      ((9000 < l.length ∧ ∃ v, e = .returned (.tuple #[zfr, v]) ∧ EC w' (fun j => w.heap.size ≤ j) [lay3] v 7) ∨
       (l.length ≤ 9000 ∧ pframe l = none ∧ ∃ v, e = .returned (.tuple #[zfr, v]) ∧ EC w' (fun j => w.heap.size ≤ j) [lay3, lay1] v 2) ∨
       (l.length ≤ 9000 ∧ ∃ f A' g o, pframe l = some f ∧ e = .returned (.tuple #[frv f (.slice A' f.b.length f.b.length), .nilIface]) ∧ w.heap.size ≤ g ∧ RB w' (fun j => j = g) (.slice A' f.b.length f.b.length) f.b ∧
         (f.b ≠ [] → A' = some ⟨g, o, none⟩ ∧ ∀ x, w'.frozen? ⟨g, x, none⟩ = false))) := by
  by_cases h0 : 9000 < l.length
  · exact parse_big P A n c l w hr hA hl h0
  by_cases h1 : l.length < 6
  · exact parse_few1 P A n c l w hr hA hl (by omega) h1
  by_cases h2 : l.length < 12
  · exact parse_few2 P A n c l w hr hA hl (by omega) (by omega) h2
  by_cases h3 : pframe l = none
  · exact parse_bad P A n c l w hr hA hl (by omega) (by omega) (by omega) h3
  · exact parse_ok P A n c l w hr hA hl (by omega) (by omega) (by omega) h3
end Go.Proofs.YtkgieciamophkaaDoor
