/-
  Frames of law 03: Bytes of any frame, told, of. By an AI agent.
-/
import Derived.Test.YtkgieciamophkaaDoorBytes
namespace Go.Proofs.YtkgieciamophkaaDoor
open Go.RowKit

theorem told3_nil (w : World) : Calls Tryd.prog 36 #[.nilIface] w fun e w' => e = .returned (.string ⟨#[]⟩) ∧ w = w' := by
  go_enter Tryd.func36, Tryd.ntmps36
  go_wp2
  go_ret
  exact ⟨rfl, rfl⟩
theorem told3_any (P : Nat → Prop) (r : List (List UInt8)) (k : Nat) (v : Value) (w : World) (hec : EC w P r v k) (hk : k ≤ 13) (hl : (etx r k).length ≤ 1000) :
    Calls Tryd.prog 36 #[v] w fun e w' => e = .returned (.string (bs (etx r k))) ∧ Ex (fun _ => False) w w' := by
  obtain ⟨ty, y, f, rfl, g1, g2, g3⟩ := etext k hk r v w hec hl
  have G3 := Lib.hid g3
  clear g3 hec
  go_enter Tryd.func36, Tryd.ntmps36
  go_wp2_with fail
  refine (G3.out w (Ex.refl _ w)).mono ?_
  rintro e w' ⟨rfl, hx⟩
  have HX := Lib.hid hx
  clear hx
  go_wp2_with fail
  go_ret
  exact ⟨rfl, HX.out⟩

/-- what Bytes refuses -/
def badfr (f : Fr) : Prop := f.vl < -1 ∨ 65535 < f.vl ∨ (f.vl = -1 ∧ f.ty = 33024)
/-- a frame that came in -/
structure Fr.ok (f : Fr) : Prop where
  d : f.d.length = 6
  s : f.s.length = 6
  v1 : -9223372036854775808 ≤ f.vl
  v2 : f.vl ≤ 9223372036854775807
  t : f.ty < 65536
theorem six_is {l : List UInt8} (h : l.length = 6) : ∃ a b c d e f, l = [a, b, c, d, e, f] := by
  match l, h with
  | [a, b, c, d, e, f], _ => exact ⟨a, b, c, d, e, f, rfl⟩
theorem fbytes_any (P : Nat → Prop) (f : Fr) (A : Option Addr) (n c : Nat) (w : World) (ok : f.ok) (hr : RB w P (.slice A n c) f.b) (hb : f.b.length ≤ 1000000) :
    Calls Tryd.prog 38 #[frv f (.slice A n c)] w fun e w' => Ex (fun _ => False) w w' ∧
      ((badfr f ∧ ∃ v, e = .returned (.tuple #[.slice none 0 0, v]) ∧ EC w' (fun j => w.heap.size ≤ j) [lay3] v 1) ∨
       (¬ badfr f ∧ 9000 < (fbytes f).length ∧ ∃ v, e = .returned (.tuple #[.slice none 0 0, v]) ∧ EC w' (fun j => w.heap.size ≤ j) [lay3] v 7) ∨
       (¬ badfr f ∧ (fbytes f).length ≤ 9000 ∧ ∃ A' c', e = .returned (.tuple #[.slice (some A') (fbytes f).length c', .nilIface]) ∧ OB w' w.heap.size (.slice (some A') (fbytes f).length c') (fbytes f))) := by
  obtain ⟨fd, fs, vl, ty, b⟩ := f
  obtain ⟨h1, h2, h3, h4, h5⟩ := ok
  simp only at h1 h2 h3 h4 h5 hr hb
  obtain ⟨d0, d1, d2, d3, d4, d5, rfl⟩ := six_is h1
  obtain ⟨s0, s1, s2, s3, s4, s5, rfl⟩ := six_is h2
  by_cases b1 : vl < -1
  · refine (bytes_bad1 d0 d1 d2 d3 d4 d5 s0 s1 s2 s3 s4 s5 vl ty A n c w b1).mono ?_
    rintro e w' ⟨hx, v, rfl, he⟩
    exact ⟨hx, .inl ⟨.inl b1, v, rfl, he⟩⟩
  by_cases b2 : 65535 < vl
  · refine (bytes_bad2 d0 d1 d2 d3 d4 d5 s0 s1 s2 s3 s4 s5 vl ty A n c w b2).mono ?_
    rintro e w' ⟨hx, v, rfl, he⟩
    exact ⟨hx, .inl ⟨.inr (.inl b2), v, rfl, he⟩⟩
  by_cases b3 : vl = -1
  · by_cases b4 : ty = 33024
    · refine (bytes_bad3 d0 d1 d2 d3 d4 d5 s0 s1 s2 s3 s4 s5 vl ty A n c w ⟨b3, b4⟩).mono ?_
      rintro e w' ⟨hx, v, rfl, he⟩
      exact ⟨hx, .inl ⟨.inr (.inr ⟨b3, b4⟩), v, rfl, he⟩⟩
    · subst b3
      refine (bytes_plain P d0 d1 d2 d3 d4 d5 s0 s1 s2 s3 s4 s5 ty b A n c w hr hb h5 b4).mono ?_
      have hnb : ¬ badfr ⟨[d0, d1, d2, d3, d4, d5], [s0, s1, s2, s3, s4, s5], -1, ty, b⟩ := by
        intro h; rcases h with h | h | ⟨_, h⟩ <;> simp only at h <;> omega
      rintro e w' ⟨hx, ⟨hg, v, rfl, he⟩ | ⟨hg, A', c', rfl, ho⟩⟩
      · exact ⟨hx, .inr (.inl ⟨hnb, hg, v, rfl, he⟩)⟩
      · exact ⟨hx, .inr (.inr ⟨hnb, hg, A', c', rfl, ho⟩)⟩
  · refine (bytes_tag P d0 d1 d2 d3 d4 d5 s0 s1 s2 s3 s4 s5 vl ty b A n c w hr hb h3 h4 h5 (by omega) (by omega)).mono ?_
    have hnb : ¬ badfr ⟨[d0, d1, d2, d3, d4, d5], [s0, s1, s2, s3, s4, s5], vl, ty, b⟩ := by
      intro h; rcases h with h | h | ⟨h, _⟩ <;> simp only at h <;> omega
    rintro e w' ⟨hx, ⟨hg, v, rfl, he⟩ | ⟨hg, A', c', rfl, ho⟩⟩
    · exact ⟨hx, .inr (.inl ⟨hnb, hg, v, rfl, he⟩)⟩
    · exact ⟨hx, .inr (.inr ⟨hnb, hg, A', c', rfl, ho⟩)⟩

/-- the document's frame, as a value -/
def rfv (f : Fr) : Value := .agg #[.string (bs f.d), .string (bs f.s), .int .i64 f.vl, .int .u32 (f.ty : Int), .string (bs f.b)]
theorem rf_size : (Tryd.prog.info? 80).map (·.size) = some 5 := by kernel_rfl
set_option maxRecDepth 100000 in
set_option maxHeartbeats 2000000 in
theorem of_cells (P : Nat → Prop) (d0 d1 d2 d3 d4 d5 s0 s1 s2 s3 s4 s5 : UInt8) (vl : Int) (ty : Nat) (b : List UInt8) (A : Option Addr) (n c : Nat) (w : World) (hr : RB w P (.slice A n c) b) (ht : ty < 65536) :
    Calls Tryd.prog 37 #[.agg #[.int .u8 (d0.toNat : Int), .int .u8 (d1.toNat : Int), .int .u8 (d2.toNat : Int), .int .u8 (d3.toNat : Int), .int .u8 (d4.toNat : Int), .int .u8 (d5.toNat : Int), .int .u8 (s0.toNat : Int), .int .u8 (s1.toNat : Int), .int .u8 (s2.toNat : Int), .int .u8 (s3.toNat : Int), .int .u8 (s4.toNat : Int), .int .u8 (s5.toNat : Int), .int .i64 vl, .int .u16 (ty : Int), .slice A n c]] w fun e w' => e = .returned (.agg #[.string (bs [d0, d1, d2, d3, d4, d5]), .string (bs [s0, s1, s2, s3, s4, s5]), .int .i64 vl, .int .u32 (ty : Int), .string (bs b)]) ∧ Ex (fun _ => False) w w' := by
  obtain ⟨fb, hfb⟩ : ∃ fb, fb = w.heap.size := ⟨_, rfl⟩
  have ha : Ex (fun _ => False) w (w.alloc (.cells #[.int .u8 (d0.toNat : Int), .int .u8 (d1.toNat : Int), .int .u8 (d2.toNat : Int), .int .u8 (d3.toNat : Int), .int .u8 (d4.toNat : Int), .int .u8 (d5.toNat : Int), .int .u8 (s0.toNat : Int), .int .u8 (s1.toNat : Int), .int .u8 (s2.toNat : Int), .int .u8 (s3.toNat : Int), .int .u8 (s4.toNat : Int), .int .u8 (s5.toNat : Int), .int .i64 vl, .int .u16 (ty : Int), .slice A n c] 76)) := (Ex.refl _ w).alloc _
  have hbl : (w.alloc (.cells #[.int .u8 (d0.toNat : Int), .int .u8 (d1.toNat : Int), .int .u8 (d2.toNat : Int), .int .u8 (d3.toNat : Int), .int .u8 (d4.toNat : Int), .int .u8 (d5.toNat : Int), .int .u8 (s0.toNat : Int), .int .u8 (s1.toNat : Int), .int .u8 (s2.toNat : Int), .int .u8 (s3.toNat : Int), .int .u8 (s4.toNat : Int), .int .u8 (s5.toNat : Int), .int .i64 vl, .int .u16 (ty : Int), .slice A n c] 76)).heap[fb]? = some (.cells #[.int .u8 (d0.toNat : Int), .int .u8 (d1.toNat : Int), .int .u8 (d2.toNat : Int), .int .u8 (d3.toNat : Int), .int .u8 (d4.toNat : Int), .int .u8 (d5.toNat : Int), .int .u8 (s0.toNat : Int), .int .u8 (s1.toNat : Int), .int .u8 (s2.toNat : Int), .int .u8 (s3.toNat : Int), .int .u8 (s4.toNat : Int), .int .u8 (s5.toNat : Int), .int .i64 vl, .int .u16 (ty : Int), .slice A n c] 76) := by rw [hfb]; exact heap_alloc_new w _
  have HRB := Lib.hid ((hr.keep ha (fun _ _ _ => id)).old)
  have hw1s : w.heap.size < (w.alloc (.cells #[.int .u8 (d0.toNat : Int), .int .u8 (d1.toNat : Int), .int .u8 (d2.toNat : Int), .int .u8 (d3.toNat : Int), .int .u8 (d4.toNat : Int), .int .u8 (d5.toNat : Int), .int .u8 (s0.toNat : Int), .int .u8 (s1.toNat : Int), .int .u8 (s2.toNat : Int), .int .u8 (s3.toNat : Int), .int .u8 (s4.toNat : Int), .int .u8 (s5.toNat : Int), .int .i64 vl, .int .u16 (ty : Int), .slice A n c] 76)).heap.size := by simp
  have hf1 : w.heap.size ≤ fb := by omega
  have hw1e : (w.alloc (.cells #[.int .u8 (d0.toNat : Int), .int .u8 (d1.toNat : Int), .int .u8 (d2.toNat : Int), .int .u8 (d3.toNat : Int), .int .u8 (d4.toNat : Int), .int .u8 (d5.toNat : Int), .int .u8 (s0.toNat : Int), .int .u8 (s1.toNat : Int), .int .u8 (s2.toNat : Int), .int .u8 (s3.toNat : Int), .int .u8 (s4.toNat : Int), .int .u8 (s5.toNat : Int), .int .i64 vl, .int .u16 (ty : Int), .slice A n c] 76)).heap.size = fb + 1 := by rw [hfb]; simp
  have HFB := Lib.hid hfb
  clear hr hfb
  go_enter Tryd.func37, Tryd.ntmps37
  go_upto_region 1 with fail
  try rw [← HFB.out]
  generalize w.alloc (.cells #[.int .u8 (d0.toNat : Int), .int .u8 (d1.toNat : Int), .int .u8 (d2.toNat : Int), .int .u8 (d3.toNat : Int), .int .u8 (d4.toNat : Int), .int .u8 (d5.toNat : Int), .int .u8 (s0.toNat : Int), .int .u8 (s1.toNat : Int), .int .u8 (s2.toNat : Int), .int .u8 (s3.toNat : Int), .int .u8 (s4.toNat : Int), .int .u8 (s5.toNat : Int), .int .i64 vl, .int .u16 (ty : Int), .slice A n c] 76) = w1 at ha hbl HRB hw1s hw1e ⊢
  have hfl := row_lt hbl
  obtain ⟨tb, htb⟩ : ∃ tb, tb = fb + 1 := ⟨_, rfl⟩
  have hx2 : Ex (fun _ => False) w1 (w1.alloc (.cells #[.string ⟨#[]⟩, .string ⟨#[]⟩, .int .i64 0, .int .u32 0, .string ⟨#[]⟩] 80)) := (Ex.refl _ w1).alloc _
  have hbt : (w1.alloc (.cells #[.string ⟨#[]⟩, .string ⟨#[]⟩, .int .i64 0, .int .u32 0, .string ⟨#[]⟩] 80)).heap[tb]? = some (.cells #[.string ⟨#[]⟩, .string ⟨#[]⟩, .int .i64 0, .int .u32 0, .string ⟨#[]⟩] 80) := by rw [htb, ← hw1e]; exact heap_alloc_new w1 _
  try simp only [← htb]
  have htb1 : w1.heap.size ≤ tb := by omega
  clear htb hw1e
  generalize w1.alloc (.cells #[.string ⟨#[]⟩, .string ⟨#[]⟩, .int .i64 0, .int .u32 0, .string ⟨#[]⟩] 80) = w2 at hx2 hbt ⊢
  have hbl2 := (hx2.block fb hfl id).trans hbl
  have c0 := row_cell (k := 0) (v := .int .u8 (d0.toNat : Int)) hbl2 rfl
  have c1 := row_cell (k := 1) (v := .int .u8 (d1.toNat : Int)) hbl2 rfl
  have c2 := row_cell (k := 2) (v := .int .u8 (d2.toNat : Int)) hbl2 rfl
  have c3 := row_cell (k := 3) (v := .int .u8 (d3.toNat : Int)) hbl2 rfl
  have c4 := row_cell (k := 4) (v := .int .u8 (d4.toNat : Int)) hbl2 rfl
  have c5 := row_cell (k := 5) (v := .int .u8 (d5.toNat : Int)) hbl2 rfl
  have c6 := row_cell (k := 6) (v := .int .u8 (s0.toNat : Int)) hbl2 rfl
  have c7 := row_cell (k := 7) (v := .int .u8 (s1.toNat : Int)) hbl2 rfl
  have c8 := row_cell (k := 8) (v := .int .u8 (s2.toNat : Int)) hbl2 rfl
  have c9 := row_cell (k := 9) (v := .int .u8 (s3.toNat : Int)) hbl2 rfl
  have c10 := row_cell (k := 10) (v := .int .u8 (s4.toNat : Int)) hbl2 rfl
  have c11 := row_cell (k := 11) (v := .int .u8 (s5.toNat : Int)) hbl2 rfl
  have c12 := row_cell (k := 12) (v := .int .i64 vl) hbl2 rfl
  have c13 := row_cell (k := 13) (v := .int .u16 (ty : Int)) hbl2 rfl
  have c14 := row_cell (k := 14) (v := .slice A n c) hbl2 rfl
  have hrd : RB w2 (fun j => j = fb) (.slice (some ⟨fb, 0, none⟩) 6 6) [d0, d1, d2, d3, d4, d5] := ⟨by simp, _, _, rfl, by simp, fun i hi => ⟨fb, 0, rfl, rfl, by
    have : i = 0 ∨ i = 1 ∨ i = 2 ∨ i = 3 ∨ i = 4 ∨ i = 5 := by simp at hi; omega
    rcases this with rfl | rfl | rfl | rfl | rfl | rfl
    · exact c0
    · exact c1
    · exact c2
    · exact c3
    · exact c4
    · exact c5⟩⟩
  have hrs : RB w2 (fun j => j = fb) (.slice (some ⟨fb, 6, none⟩) 6 6) [s0, s1, s2, s3, s4, s5] := ⟨by simp, _, _, rfl, by simp, fun i hi => ⟨fb, 6, rfl, rfl, by
    have : i = 0 ∨ i = 1 ∨ i = 2 ∨ i = 3 ∨ i = 4 ∨ i = 5 := by simp at hi; omega
    rcases this with rfl | rfl | rfl | rfl | rfl | rfl
    · exact c6
    · exact c7
    · exact c8
    · exact c9
    · exact c10
    · exact c11⟩⟩
  have hvd : ∀ W, Ex (fun j => j = tb) w2 W → (convert 23 9 (.slice (some ⟨fb, 0, none⟩) 6 6)).run Tryd.prog W = .ok (.string (bs [d0, d1, d2, d3, d4, d5])) W := fun W h => (hrd.keep h (fun k _ e e' => by omega)).str 23 9 5 Tryd.underlying23 Tryd.underlying5 Tryd.underlying9
  have hvs : ∀ W, Ex (fun j => j = tb) w2 W → (convert 23 9 (.slice (some ⟨fb, 6, none⟩) 6 6)).run Tryd.prog W = .ok (.string (bs [s0, s1, s2, s3, s4, s5])) W := fun W h => (hrs.keep h (fun k _ e e' => by omega)).str 23 9 5 Tryd.underlying23 Tryd.underlying5 Tryd.underlying9
  have hvb : ∀ W, Ex (fun j => j = tb) w2 W → (convert 23 9 (.slice A n c)).run Tryd.prog W = .ok (.string (bs b)) W := fun W h => ((HRB.out.keep hx2 (fun _ _ _ => id)).keep h (fun k _ e e' => by have := e.2; omega)).str 23 9 5 Tryd.underlying23 Tryd.underlying5 Tryd.underlying9
  have q1 : IntKind.u32.wrap (ty : Int) = (ty : Int) := by rw [IntKind.wrap_u32]; omega
  have hS : Ex (fun j => j = tb) w2 w2.drew := (Ex.refl _ w2).drew
  have t0 : w2.cell? ⟨tb, 0, none⟩ = some (.string ⟨#[]⟩) := row_cell hbt rfl
  have f0 : w2.frozen? ⟨tb, 0, none⟩ = false := row_frozen hbt 0
  have t1 : w2.cell? ⟨tb, 1, none⟩ = some (.string ⟨#[]⟩) := row_cell hbt rfl
  have f1 : w2.frozen? ⟨tb, 1, none⟩ = false := row_frozen hbt 1
  have t2 : w2.cell? ⟨tb, 2, none⟩ = some (.int .i64 0) := row_cell hbt rfl
  have f2 : w2.frozen? ⟨tb, 2, none⟩ = false := row_frozen hbt 2
  have t3 : w2.cell? ⟨tb, 3, none⟩ = some (.int .u32 0) := row_cell hbt rfl
  have f3 : w2.frozen? ⟨tb, 3, none⟩ = false := row_frozen hbt 3
  have t4 : w2.cell? ⟨tb, 4, none⟩ = some (.string ⟨#[]⟩) := row_cell hbt rfl
  have f4 : w2.frozen? ⟨tb, 4, none⟩ = false := row_frozen hbt 4
  clear hrd hrs c0 c1 c2 c3 c4 c5 c6 c7 c8 c9 c10 c11
  have hnb : fb ≠ tb := by omega
  refine wp_region_held_drew (S := fun W => Ex (fun j => j = tb) w2 W) (by kernel_rfl) hS (fun _ => ?_)
  refine wpAnyH_take (i := 0) (oi := { dst := some 3, op := Go.Op.fieldAddr 76 (Go.Operand.tmp 1) 0, type := 0, pos := "law.go:30", after := #[], guard := none }) (v := ?v1) rfl (by kernel_rfl) (by kernel_rfl) (by kernel_rfl) (fun _ _ _ h => h) (Or.inl ⟨by rfl, ?hy1⟩) (by assumption) ?rest1
  case hy1 => (intro w hSw; (try dsimp only at hSw); have c12 := hSw.cell c12 hnb; have c13 := hSw.cell c13 hnb; have c14 := hSw.cell c14 hnb; go_simp <;> with_reducible rfl)
  try simp only [Act.put, List.setIfInBounds_toArray, List.set_cons_zero, List.set_cons_succ]
  refine wpAnyH_take (i := 1) (oi := { dst := some 4, op := Go.Op.slice 74 (Go.Operand.tmp 3) none none none, type := 23, pos := "law.go:30", after := #[{ on := 0, ground := Go.Ground.data }], guard := none }) (v := ?v2) rfl (by kernel_rfl) (by kernel_rfl) (by kernel_rfl) (fun _ _ _ h => h) (Or.inl ⟨by rfl, ?hy2⟩) (by assumption) ?rest2
  case hy2 => (intro w hSw; (try dsimp only at hSw); have c12 := hSw.cell c12 hnb; have c13 := hSw.cell c13 hnb; have c14 := hSw.cell c14 hnb; go_simp <;> with_reducible rfl)
  try simp only [Act.put, List.setIfInBounds_toArray, List.set_cons_zero, List.set_cons_succ]
  refine wpAnyH_take (i := 2) (oi := { dst := some 5, op := Go.Op.convert 23 9 (Go.Operand.tmp 4), type := 9, pos := "law.go:30", after := #[{ on := 1, ground := Go.Ground.data }], guard := none }) (v := ?v3) rfl (by kernel_rfl) (by kernel_rfl) (by kernel_rfl) (fun _ _ _ h => h) (Or.inl ⟨by rfl, ?hy3⟩) (by assumption) ?rest3
  case hy3 => (intro w hSw; (try dsimp only at hSw); have c12 := hSw.cell c12 hnb; have c13 := hSw.cell c13 hnb; have c14 := hSw.cell c14 hnb; go_simp <;> with_reducible rfl)
  try simp only [Act.put, List.setIfInBounds_toArray, List.set_cons_zero, List.set_cons_succ]
  refine wpAnyH_take (i := 3) (oi := { dst := some 6, op := Go.Op.fieldAddr 76 (Go.Operand.tmp 1) 1, type := 0, pos := "law.go:30", after := #[], guard := none }) (v := ?v4) rfl (by kernel_rfl) (by kernel_rfl) (by kernel_rfl) (fun _ _ _ h => h) (Or.inl ⟨by rfl, ?hy4⟩) (by assumption) ?rest4
  case hy4 => (intro w hSw; (try dsimp only at hSw); have c12 := hSw.cell c12 hnb; have c13 := hSw.cell c13 hnb; have c14 := hSw.cell c14 hnb; go_simp <;> with_reducible rfl)
  try simp only [Act.put, List.setIfInBounds_toArray, List.set_cons_zero, List.set_cons_succ]
  refine wpAnyH_take (i := 4) (oi := { dst := some 7, op := Go.Op.slice 74 (Go.Operand.tmp 6) none none none, type := 23, pos := "law.go:30", after := #[{ on := 3, ground := Go.Ground.data }], guard := none }) (v := ?v5) rfl (by kernel_rfl) (by kernel_rfl) (by kernel_rfl) (fun _ _ _ h => h) (Or.inl ⟨by rfl, ?hy5⟩) (by assumption) ?rest5
  case hy5 => (intro w hSw; (try dsimp only at hSw); have c12 := hSw.cell c12 hnb; have c13 := hSw.cell c13 hnb; have c14 := hSw.cell c14 hnb; go_simp <;> with_reducible rfl)
  try simp only [Act.put, List.setIfInBounds_toArray, List.set_cons_zero, List.set_cons_succ]
  refine wpAnyH_take (i := 5) (oi := { dst := some 8, op := Go.Op.convert 23 9 (Go.Operand.tmp 7), type := 9, pos := "law.go:30", after := #[{ on := 4, ground := Go.Ground.data }], guard := none }) (v := ?v6) rfl (by kernel_rfl) (by kernel_rfl) (by kernel_rfl) (fun _ _ _ h => h) (Or.inl ⟨by rfl, ?hy6⟩) (by assumption) ?rest6
  case hy6 => (intro w hSw; (try dsimp only at hSw); have c12 := hSw.cell c12 hnb; have c13 := hSw.cell c13 hnb; have c14 := hSw.cell c14 hnb; go_simp <;> with_reducible rfl)
  try simp only [Act.put, List.setIfInBounds_toArray, List.set_cons_zero, List.set_cons_succ]
  refine wpAnyH_take (i := 6) (oi := { dst := some 9, op := Go.Op.fieldAddr 76 (Go.Operand.tmp 1) 2, type := 0, pos := "law.go:30", after := #[], guard := none }) (v := ?v7) rfl (by kernel_rfl) (by kernel_rfl) (by kernel_rfl) (fun _ _ _ h => h) (Or.inl ⟨by rfl, ?hy7⟩) (by assumption) ?rest7
  case hy7 => (intro w hSw; (try dsimp only at hSw); have c12 := hSw.cell c12 hnb; have c13 := hSw.cell c13 hnb; have c14 := hSw.cell c14 hnb; go_simp <;> with_reducible rfl)
  try simp only [Act.put, List.setIfInBounds_toArray, List.set_cons_zero, List.set_cons_succ]
  refine wpAnyH_take (i := 7) (oi := { dst := some 10, op := Go.Op.load 3 (Go.Operand.tmp 9), type := 3, pos := "law.go:30", after := #[{ on := 6, ground := Go.Ground.data }], guard := none }) (v := ?v8) rfl (by kernel_rfl) (by kernel_rfl) (by kernel_rfl) (fun _ _ _ h => h) (Or.inl ⟨by rfl, ?hy8⟩) (by assumption) ?rest8
  case hy8 => (intro w hSw; (try dsimp only at hSw); have c12 := hSw.cell c12 hnb; have c13 := hSw.cell c13 hnb; have c14 := hSw.cell c14 hnb; go_simp <;> with_reducible rfl)
  try simp only [Act.put, List.setIfInBounds_toArray, List.set_cons_zero, List.set_cons_succ]
  refine wpAnyH_take (i := 8) (oi := { dst := some 11, op := Go.Op.fieldAddr 76 (Go.Operand.tmp 1) 3, type := 0, pos := "law.go:30", after := #[], guard := none }) (v := ?v9) rfl (by kernel_rfl) (by kernel_rfl) (by kernel_rfl) (fun _ _ _ h => h) (Or.inl ⟨by rfl, ?hy9⟩) (by assumption) ?rest9
  case hy9 => (intro w hSw; (try dsimp only at hSw); have c12 := hSw.cell c12 hnb; have c13 := hSw.cell c13 hnb; have c14 := hSw.cell c14 hnb; go_simp <;> with_reducible rfl)
  try simp only [Act.put, List.setIfInBounds_toArray, List.set_cons_zero, List.set_cons_succ]
  refine wpAnyH_take (i := 9) (oi := { dst := some 12, op := Go.Op.load 31 (Go.Operand.tmp 11), type := 31, pos := "law.go:30", after := #[{ on := 8, ground := Go.Ground.data }], guard := none }) (v := ?v10) rfl (by kernel_rfl) (by kernel_rfl) (by kernel_rfl) (fun _ _ _ h => h) (Or.inl ⟨by rfl, ?hy10⟩) (by assumption) ?rest10
  case hy10 => (intro w hSw; (try dsimp only at hSw); have c12 := hSw.cell c12 hnb; have c13 := hSw.cell c13 hnb; have c14 := hSw.cell c14 hnb; go_simp <;> with_reducible rfl)
  try simp only [Act.put, List.setIfInBounds_toArray, List.set_cons_zero, List.set_cons_succ]
  refine wpAnyH_take (i := 10) (oi := { dst := some 13, op := Go.Op.convert 31 26 (Go.Operand.tmp 12), type := 26, pos := "law.go:30", after := #[{ on := 9, ground := Go.Ground.data }], guard := none }) (v := ?v11) rfl (by kernel_rfl) (by kernel_rfl) (by kernel_rfl) (fun _ _ _ h => h) (Or.inl ⟨by rfl, ?hy11⟩) (by assumption) ?rest11
  case hy11 => (intro w hSw; (try dsimp only at hSw); have c12 := hSw.cell c12 hnb; have c13 := hSw.cell c13 hnb; have c14 := hSw.cell c14 hnb; go_simp <;> with_reducible rfl)
  try simp only [Act.put, List.setIfInBounds_toArray, List.set_cons_zero, List.set_cons_succ]
  refine wpAnyH_take (i := 11) (oi := { dst := some 14, op := Go.Op.fieldAddr 76 (Go.Operand.tmp 1) 4, type := 0, pos := "law.go:30", after := #[], guard := none }) (v := ?v12) rfl (by kernel_rfl) (by kernel_rfl) (by kernel_rfl) (fun _ _ _ h => h) (Or.inl ⟨by rfl, ?hy12⟩) (by assumption) ?rest12
  case hy12 => (intro w hSw; (try dsimp only at hSw); have c12 := hSw.cell c12 hnb; have c13 := hSw.cell c13 hnb; have c14 := hSw.cell c14 hnb; go_simp <;> with_reducible rfl)
  try simp only [Act.put, List.setIfInBounds_toArray, List.set_cons_zero, List.set_cons_succ]
  refine wpAnyH_take (i := 12) (oi := { dst := some 15, op := Go.Op.load 23 (Go.Operand.tmp 14), type := 23, pos := "law.go:30", after := #[{ on := 11, ground := Go.Ground.data }], guard := none }) (v := ?v13) rfl (by kernel_rfl) (by kernel_rfl) (by kernel_rfl) (fun _ _ _ h => h) (Or.inl ⟨by rfl, ?hy13⟩) (by assumption) ?rest13
  case hy13 => (intro w hSw; (try dsimp only at hSw); have c12 := hSw.cell c12 hnb; have c13 := hSw.cell c13 hnb; have c14 := hSw.cell c14 hnb; go_simp <;> with_reducible rfl)
  try simp only [Act.put, List.setIfInBounds_toArray, List.set_cons_zero, List.set_cons_succ]
  refine wpAnyH_take (i := 13) (oi := { dst := some 16, op := Go.Op.convert 23 9 (Go.Operand.tmp 15), type := 9, pos := "law.go:30", after := #[{ on := 12, ground := Go.Ground.data }], guard := none }) (v := ?v14) rfl (by kernel_rfl) (by kernel_rfl) (by kernel_rfl) (fun _ _ _ h => h) (Or.inl ⟨by rfl, ?hy14⟩) (by assumption) ?rest14
  case hy14 => (intro w hSw; (try dsimp only at hSw); have c12 := hSw.cell c12 hnb; have c13 := hSw.cell c13 hnb; have c14 := hSw.cell c14 hnb; go_simp <;> with_reducible rfl)
  try simp only [Act.put, List.setIfInBounds_toArray, List.set_cons_zero, List.set_cons_succ]
  refine wpAnyH_take (i := 14) (oi := { dst := some 17, op := Go.Op.build 80 #[(0, Go.Operand.tmp 5), (1, Go.Operand.tmp 8), (2, Go.Operand.tmp 10), (3, Go.Operand.tmp 13), (4, Go.Operand.tmp 16)], type := 80, pos := "law.go:30", after := #[{ on := 2, ground := Go.Ground.data }, { on := 5, ground := Go.Ground.data }, { on := 7, ground := Go.Ground.data }, { on := 10, ground := Go.Ground.data }, { on := 13, ground := Go.Ground.data }], guard := none }) (v := ?v15) rfl (by kernel_rfl) (by kernel_rfl) (by kernel_rfl) (fun _ _ _ h => h) (Or.inl ⟨by rfl, ?hy15⟩) (by assumption) ?rest15
  case hy15 => (intro w hSw; (try dsimp only at hSw); have c12 := hSw.cell c12 hnb; have c13 := hSw.cell c13 hnb; have c14 := hSw.cell c14 hnb; go_simp <;> with_reducible rfl)
  try simp only [Act.put, List.setIfInBounds_toArray, List.set_cons_zero, List.set_cons_succ]
  refine wpAnyH_ready (rs := [15]) (by kernel_rfl) (by simp) ?_
  refine AllReadyH.cons (o := { dst := none, op := Go.Op.store 80 (Go.Operand.tmp 2) (Go.Operand.tmp 17), type := 0, pos := "law.go:30", after := #[{ on := 14, ground := Go.Ground.data }, { on := 0, ground := Go.Ground.phase }, { on := 1, ground := Go.Ground.phase }, { on := 2, ground := Go.Ground.phase }, { on := 3, ground := Go.Ground.phase }, { on := 4, ground := Go.Ground.phase }, { on := 5, ground := Go.Ground.phase }, { on := 6, ground := Go.Ground.phase }, { on := 7, ground := Go.Ground.phase }, { on := 8, ground := Go.Ground.phase }, { on := 9, ground := Go.Ground.phase }, { on := 10, ground := Go.Ground.phase }, { on := 11, ground := Go.Ground.phase }, { on := 12, ground := Go.Ground.phase }, { on := 13, ground := Go.Ground.phase }, { on := 14, ground := Go.Ground.phase }], guard := none }) rfl (fun K hK => ?_) AllReadyH.nil
  go_simp
  refine hK.out _ _ ?hS9 (fun hS9 => ?_)
  case hS9 => exact ((((((Ex.refl (fun j => j = tb) w2).setCell (p := ⟨tb, 0, none⟩) (.inl rfl) _).setCell (p := ⟨tb, 1, none⟩) (.inl rfl) _).setCell (p := ⟨tb, 2, none⟩) (.inl rfl) _).setCell (p := ⟨tb, 3, none⟩) (.inl rfl) _).setCell (p := ⟨tb, 4, none⟩) (.inl rfl) _).drew
  refine wpAnyH_done (by kernel_rfl) ?_ _
  have hrow := row_set (row_set (row_set (row_set (row_set (w := w2) hbt 0 (.string (bs [d0, d1, d2, d3, d4, d5]))) 1 (.string (bs [s0, s1, s2, s3, s4, s5]))) 2 (.int .i64 vl)) 3 (.int .u32 (ty : Int))) 4 (.string (bs b))
  have HROW := Lib.hid hrow
  have HS9 := Lib.hid hS9
  clear hrow t0 t1 t2 t3 t4 f0 f1 f2 f3 f4
  go_wp2_with fail
  (try simp only [Exit.inBlock, Exit.then])
  refine bodyPost_ret (v := .agg #[.string (bs [d0, d1, d2, d3, d4, d5]), .string (bs [s0, s1, s2, s3, s4, s5]), .int .i64 vl, .int .u32 (ty : Int), .string (bs b)]) ?_ rfl ⟨rfl, (ha.trans hx2).andThen HS9.out (fun i hi e => by omega)⟩
  exact results_cell_row rfl _ _ tb 80 #[.string (bs [d0, d1, d2, d3, d4, d5]), .string (bs [s0, s1, s2, s3, s4, s5]), .int .i64 vl, .int .u32 (ty : Int), .string (bs b)] (0, 0) _ rfl HROW.out Tryd.underlying80 rfl rf_size
theorem of_any (P : Nat → Prop) (f : Fr) (A : Option Addr) (n c : Nat) (w : World) (ok : f.ok) (hr : RB w P (.slice A n c) f.b) :
    Calls Tryd.prog 37 #[frv f (.slice A n c)] w fun e w' => e = .returned (rfv f) ∧ Ex (fun _ => False) w w' := by
  obtain ⟨fd, fs, vl, ty, b⟩ := f
  obtain ⟨h1, h2, h3, h4, h5⟩ := ok
  simp only at h1 h2 h3 h4 h5 hr
  obtain ⟨d0, d1, d2, d3, d4, d5, rfl⟩ := six_is h1
  obtain ⟨s0, s1, s2, s3, s4, s5, rfl⟩ := six_is h2
  exact of_cells P d0 d1 d2 d3 d4 d5 s0 s1 s2 s3 s4 s5 vl ty b A n c w hr h5
end Go.Proofs.YtkgieciamophkaaDoor
