/-
  The contract of ether's Frame.Bytes. By an AI agent.
-/
import Derived.Test.YtkgieciamophkaaDoorParse
import Derived.Deep.RegionHeld
namespace Go.Proofs.YtkgieciamophkaaDoor
open Go.RowKit

/-- the bytes of a frame -/
def fbytes (f : Fr) : List UInt8 := f.d ++ (f.s ++ ((if f.vl = -1 then [] else txt 33024 2 ++ txt f.vl 2) ++ (txt (f.ty : Int) 2 ++ f.b)))
set_option maxRecDepth 100000 in
set_option maxHeartbeats 2000000 in
theorem bytes_bad1 (d0 d1 d2 d3 d4 d5 s0 s1 s2 s3 s4 s5 : UInt8) (vl : Int) (ty : Nat) (A : Option Addr) (n c : Nat) (w : World) (hv : vl < -1) :
    Calls Tryd.prog 38 #[.agg #[.int .u8 (d0.toNat : Int), .int .u8 (d1.toNat : Int), .int .u8 (d2.toNat : Int), .int .u8 (d3.toNat : Int), .int .u8 (d4.toNat : Int), .int .u8 (d5.toNat : Int), .int .u8 (s0.toNat : Int), .int .u8 (s1.toNat : Int), .int .u8 (s2.toNat : Int), .int .u8 (s3.toNat : Int), .int .u8 (s4.toNat : Int), .int .u8 (s5.toNat : Int), .int .i64 vl, .int .u16 (ty : Int), .slice A n c]] w fun e w' => Ex (fun _ => False) w w' ∧ ∃ v, e = .returned (.tuple #[.slice none 0 0, v]) ∧ EC w' (fun j => w.heap.size ≤ j) [lay3] v 1 := by
  go_enter Tryd.func38, Tryd.ntmps38
  have ha : Ex (fun _ => False) w (w.alloc (.cells #[.int .u8 (d0.toNat : Int), .int .u8 (d1.toNat : Int), .int .u8 (d2.toNat : Int), .int .u8 (d3.toNat : Int), .int .u8 (d4.toNat : Int), .int .u8 (d5.toNat : Int), .int .u8 (s0.toNat : Int), .int .u8 (s1.toNat : Int), .int .u8 (s2.toNat : Int), .int .u8 (s3.toNat : Int), .int .u8 (s4.toNat : Int), .int .u8 (s5.toNat : Int), .int .i64 vl, .int .u16 (ty : Int), .slice A n c] 76)) := (Ex.refl _ w).alloc _
  have hw1 := ha.size
  go_wp2_with fail
  refine (ewrong_any (fun _ => False) [] 1 _ _ rfl).mono ?_
  rintro e w8 ⟨v8, rfl, he8, hx8⟩
  have HX8 := Lib.hid (ha.trans hx8)
  have HE8 := Lib.hid he8
  clear hx8 he8 ha
  go_wp2_with fail
  go_ret2
  exact ⟨HX8.out, v8, rfl, EC.mono (fun j hj => by rcases hj with h | h; exact h.elim; omega) HE8.out⟩

set_option maxRecDepth 100000 in
set_option maxHeartbeats 2000000 in
theorem bytes_bad2 (d0 d1 d2 d3 d4 d5 s0 s1 s2 s3 s4 s5 : UInt8) (vl : Int) (ty : Nat) (A : Option Addr) (n c : Nat) (w : World) (hv : 65535 < vl) :
    Calls Tryd.prog 38 #[.agg #[.int .u8 (d0.toNat : Int), .int .u8 (d1.toNat : Int), .int .u8 (d2.toNat : Int), .int .u8 (d3.toNat : Int), .int .u8 (d4.toNat : Int), .int .u8 (d5.toNat : Int), .int .u8 (s0.toNat : Int), .int .u8 (s1.toNat : Int), .int .u8 (s2.toNat : Int), .int .u8 (s3.toNat : Int), .int .u8 (s4.toNat : Int), .int .u8 (s5.toNat : Int), .int .i64 vl, .int .u16 (ty : Int), .slice A n c]] w fun e w' => Ex (fun _ => False) w w' ∧ ∃ v, e = .returned (.tuple #[.slice none 0 0, v]) ∧ EC w' (fun j => w.heap.size ≤ j) [lay3] v 1 := by
  go_enter Tryd.func38, Tryd.ntmps38
  have ha : Ex (fun _ => False) w (w.alloc (.cells #[.int .u8 (d0.toNat : Int), .int .u8 (d1.toNat : Int), .int .u8 (d2.toNat : Int), .int .u8 (d3.toNat : Int), .int .u8 (d4.toNat : Int), .int .u8 (d5.toNat : Int), .int .u8 (s0.toNat : Int), .int .u8 (s1.toNat : Int), .int .u8 (s2.toNat : Int), .int .u8 (s3.toNat : Int), .int .u8 (s4.toNat : Int), .int .u8 (s5.toNat : Int), .int .i64 vl, .int .u16 (ty : Int), .slice A n c] 76)) := (Ex.refl _ w).alloc _
  have hw1 := ha.size
  go_wp2_with fail
  refine (ewrong_any (fun _ => False) [] 1 _ _ rfl).mono ?_
  rintro e w8 ⟨v8, rfl, he8, hx8⟩
  have HX8 := Lib.hid (ha.trans hx8)
  have HE8 := Lib.hid he8
  clear hx8 he8 ha
  go_wp2_with fail
  go_ret2
  exact ⟨HX8.out, v8, rfl, EC.mono (fun j hj => by rcases hj with h | h; exact h.elim; omega) HE8.out⟩

set_option maxRecDepth 100000 in
set_option maxHeartbeats 2000000 in
theorem bytes_bad3 (d0 d1 d2 d3 d4 d5 s0 s1 s2 s3 s4 s5 : UInt8) (vl : Int) (ty : Nat) (A : Option Addr) (n c : Nat) (w : World) (hv : vl = -1 ∧ ty = 33024) :
    Calls Tryd.prog 38 #[.agg #[.int .u8 (d0.toNat : Int), .int .u8 (d1.toNat : Int), .int .u8 (d2.toNat : Int), .int .u8 (d3.toNat : Int), .int .u8 (d4.toNat : Int), .int .u8 (d5.toNat : Int), .int .u8 (s0.toNat : Int), .int .u8 (s1.toNat : Int), .int .u8 (s2.toNat : Int), .int .u8 (s3.toNat : Int), .int .u8 (s4.toNat : Int), .int .u8 (s5.toNat : Int), .int .i64 vl, .int .u16 (ty : Int), .slice A n c]] w fun e w' => Ex (fun _ => False) w w' ∧ ∃ v, e = .returned (.tuple #[.slice none 0 0, v]) ∧ EC w' (fun j => w.heap.size ≤ j) [lay3] v 1 := by
  have hb1 : (vl == -1) = true := by simp [hv.1]
  have hb2 : ((ty : Int) == 33024) = true := by simp [hv.2]
  have hv1 : ¬ vl < -1 := by omega
  have hv2 : ¬ 65535 < vl := by omega
  have HV := Lib.hid hv
  clear hv
  go_enter Tryd.func38, Tryd.ntmps38
  have ha : Ex (fun _ => False) w (w.alloc (.cells #[.int .u8 (d0.toNat : Int), .int .u8 (d1.toNat : Int), .int .u8 (d2.toNat : Int), .int .u8 (d3.toNat : Int), .int .u8 (d4.toNat : Int), .int .u8 (d5.toNat : Int), .int .u8 (s0.toNat : Int), .int .u8 (s1.toNat : Int), .int .u8 (s2.toNat : Int), .int .u8 (s3.toNat : Int), .int .u8 (s4.toNat : Int), .int .u8 (s5.toNat : Int), .int .i64 vl, .int .u16 (ty : Int), .slice A n c] 76)) := (Ex.refl _ w).alloc _
  have hw1 := ha.size
  go_wp2_with fail
  refine (ewrong_any (fun _ => False) [] 1 _ _ rfl).mono ?_
  rintro e w8 ⟨v8, rfl, he8, hx8⟩
  have HX8 := Lib.hid (ha.trans hx8)
  have HE8 := Lib.hid he8
  clear hx8 he8 ha
  go_wp2_with fail
  go_ret2
  exact ⟨HX8.out, v8, rfl, EC.mono (fun j hj => by rcases hj with h | h; exact h.elim; omega) HE8.out⟩

set_option maxRecDepth 100000 in
set_option maxHeartbeats 4000000 in
theorem bytes_plain (P : Nat → Prop) (d0 d1 d2 d3 d4 d5 s0 s1 s2 s3 s4 s5 : UInt8) (ty : Nat) (b : List UInt8) (A : Option Addr) (n c : Nat) (w : World) (hr : RB w P (.slice A n c) b) (hb : b.length ≤ 1000000) (ht : ty < 65536) (hty : ty ≠ 33024) :
    Calls Tryd.prog 38 #[.agg #[.int .u8 (d0.toNat : Int), .int .u8 (d1.toNat : Int), .int .u8 (d2.toNat : Int), .int .u8 (d3.toNat : Int), .int .u8 (d4.toNat : Int), .int .u8 (d5.toNat : Int), .int .u8 (s0.toNat : Int), .int .u8 (s1.toNat : Int), .int .u8 (s2.toNat : Int), .int .u8 (s3.toNat : Int), .int .u8 (s4.toNat : Int), .int .u8 (s5.toNat : Int), .int .i64 (-1), .int .u16 (ty : Int), .slice A n c]] w fun e w' => Ex (fun _ => False) w w' ∧ ((9000 < (fbytes (⟨[d0, d1, d2, d3, d4, d5], [s0, s1, s2, s3, s4, s5], (-1), ty, b⟩ : Fr)).length ∧ ∃ v, e = .returned (.tuple #[.slice none 0 0, v]) ∧ EC w' (fun j => w.heap.size ≤ j) [lay3] v 7) ∨
      ((fbytes (⟨[d0, d1, d2, d3, d4, d5], [s0, s1, s2, s3, s4, s5], (-1), ty, b⟩ : Fr)).length ≤ 9000 ∧ ∃ A' c', e = .returned (.tuple #[.slice (some A') (fbytes (⟨[d0, d1, d2, d3, d4, d5], [s0, s1, s2, s3, s4, s5], (-1), ty, b⟩ : Fr)).length c', .nilIface]) ∧ OB w' w.heap.size (.slice (some A') (fbytes (⟨[d0, d1, d2, d3, d4, d5], [s0, s1, s2, s3, s4, s5], (-1), ty, b⟩ : Fr)).length c') (fbytes (⟨[d0, d1, d2, d3, d4, d5], [s0, s1, s2, s3, s4, s5], (-1), ty, b⟩ : Fr)))) := by
  have hb1 : ((ty : Int) == 33024) = false := by simp; omega
  obtain ⟨fb, hfb⟩ : ∃ fb, fb = w.heap.size := ⟨_, rfl⟩
  have ha : Ex (fun _ => False) w (w.alloc (.cells #[.int .u8 (d0.toNat : Int), .int .u8 (d1.toNat : Int), .int .u8 (d2.toNat : Int), .int .u8 (d3.toNat : Int), .int .u8 (d4.toNat : Int), .int .u8 (d5.toNat : Int), .int .u8 (s0.toNat : Int), .int .u8 (s1.toNat : Int), .int .u8 (s2.toNat : Int), .int .u8 (s3.toNat : Int), .int .u8 (s4.toNat : Int), .int .u8 (s5.toNat : Int), .int .i64 (-1), .int .u16 (ty : Int), .slice A n c] 76)) := (Ex.refl _ w).alloc _
  have hbl : (w.alloc (.cells #[.int .u8 (d0.toNat : Int), .int .u8 (d1.toNat : Int), .int .u8 (d2.toNat : Int), .int .u8 (d3.toNat : Int), .int .u8 (d4.toNat : Int), .int .u8 (d5.toNat : Int), .int .u8 (s0.toNat : Int), .int .u8 (s1.toNat : Int), .int .u8 (s2.toNat : Int), .int .u8 (s3.toNat : Int), .int .u8 (s4.toNat : Int), .int .u8 (s5.toNat : Int), .int .i64 (-1), .int .u16 (ty : Int), .slice A n c] 76)).heap[fb]? = some (.cells #[.int .u8 (d0.toNat : Int), .int .u8 (d1.toNat : Int), .int .u8 (d2.toNat : Int), .int .u8 (d3.toNat : Int), .int .u8 (d4.toNat : Int), .int .u8 (d5.toNat : Int), .int .u8 (s0.toNat : Int), .int .u8 (s1.toNat : Int), .int .u8 (s2.toNat : Int), .int .u8 (s3.toNat : Int), .int .u8 (s4.toNat : Int), .int .u8 (s5.toNat : Int), .int .i64 (-1), .int .u16 (ty : Int), .slice A n c] 76) := by rw [hfb]; exact heap_alloc_new w _
  have HRB := Lib.hid (hr.keep ha (fun _ _ _ => id))
  have hw1s : w.heap.size < (w.alloc (.cells #[.int .u8 (d0.toNat : Int), .int .u8 (d1.toNat : Int), .int .u8 (d2.toNat : Int), .int .u8 (d3.toNat : Int), .int .u8 (d4.toNat : Int), .int .u8 (d5.toNat : Int), .int .u8 (s0.toNat : Int), .int .u8 (s1.toNat : Int), .int .u8 (s2.toNat : Int), .int .u8 (s3.toNat : Int), .int .u8 (s4.toNat : Int), .int .u8 (s5.toNat : Int), .int .i64 (-1), .int .u16 (ty : Int), .slice A n c] 76)).heap.size := by simp
  have hf1 : w.heap.size ≤ fb := by omega
  have HFB := Lib.hid hfb
  clear hr hfb
  go_enter Tryd.func38, Tryd.ntmps38
  go_upto_region 1 with fail
  rw [← HFB.out]
  generalize w.alloc (.cells #[.int .u8 (d0.toNat : Int), .int .u8 (d1.toNat : Int), .int .u8 (d2.toNat : Int), .int .u8 (d3.toNat : Int), .int .u8 (d4.toNat : Int), .int .u8 (d5.toNat : Int), .int .u8 (s0.toNat : Int), .int .u8 (s1.toNat : Int), .int .u8 (s2.toNat : Int), .int .u8 (s3.toNat : Int), .int .u8 (s4.toNat : Int), .int .u8 (s5.toNat : Int), .int .i64 (-1), .int .u16 (ty : Int), .slice A n c] 76) = w1 at ha hbl HRB hw1s ⊢
  have c0 := row_cell (k := 0) (v := .int .u8 (d0.toNat : Int)) hbl rfl
  have c1 := row_cell (k := 1) (v := .int .u8 (d1.toNat : Int)) hbl rfl
  have c2 := row_cell (k := 2) (v := .int .u8 (d2.toNat : Int)) hbl rfl
  have c3 := row_cell (k := 3) (v := .int .u8 (d3.toNat : Int)) hbl rfl
  have c4 := row_cell (k := 4) (v := .int .u8 (d4.toNat : Int)) hbl rfl
  have c5 := row_cell (k := 5) (v := .int .u8 (d5.toNat : Int)) hbl rfl
  have c6 := row_cell (k := 6) (v := .int .u8 (s0.toNat : Int)) hbl rfl
  have c7 := row_cell (k := 7) (v := .int .u8 (s1.toNat : Int)) hbl rfl
  have c8 := row_cell (k := 8) (v := .int .u8 (s2.toNat : Int)) hbl rfl
  have c9 := row_cell (k := 9) (v := .int .u8 (s3.toNat : Int)) hbl rfl
  have c10 := row_cell (k := 10) (v := .int .u8 (s4.toNat : Int)) hbl rfl
  have c11 := row_cell (k := 11) (v := .int .u8 (s5.toNat : Int)) hbl rfl
  have c12 := row_cell (k := 12) (v := .int .i64 (-1)) hbl rfl
  have c13 := row_cell (k := 13) (v := .int .u16 (ty : Int)) hbl rfl
  have c14 := row_cell (k := 14) (v := .slice A n c) hbl rfl
  have hfl := row_lt hbl
  have HA1 := Lib.hid ha
  have hrd : RB w1 (fun j => j = fb) (.slice (some ⟨fb, 0, none⟩) 6 6) [d0, d1, d2, d3, d4, d5] := ⟨by simp, _, _, rfl, by simp, fun i hi => ⟨fb, 0, rfl, rfl, by
    have : i = 0 ∨ i = 1 ∨ i = 2 ∨ i = 3 ∨ i = 4 ∨ i = 5 := by simp at hi; omega
    rcases this with rfl | rfl | rfl | rfl | rfl | rfl
    · exact c0
    · exact c1
    · exact c2
    · exact c3
    · exact c4
    · exact c5⟩⟩
  have hrs : RB w1 (fun j => j = fb) (.slice (some ⟨fb, 6, none⟩) 6 6) [s0, s1, s2, s3, s4, s5] := ⟨by simp, _, _, rfl, by simp, fun i hi => ⟨fb, 6, rfl, rfl, by
    have : i = 0 ∨ i = 1 ∨ i = 2 ∨ i = 3 ∨ i = 4 ∨ i = 5 := by simp at hi; omega
    rcases this with rfl | rfl | rfl | rfl | rfl | rfl
    · exact c6
    · exact c7
    · exact c8
    · exact c9
    · exact c10
    · exact c11⟩⟩
  have HRD := Lib.hid hrd
  have HRS := Lib.hid hrs
  clear ha hbl hrd hrs c0 c1 c2 c3 c4 c5 c6 c7 c8 c9 c10 c11
  go_upto_region 4 with fail
  have hw2 := WR.zero w1 38 w1.heap.size rfl
  have hx2 : Ex (fun _ => False) w1 (w1.alloc (.cells #[.slice none 0 0] 38)) := (Ex.refl _ w1).alloc _
  generalize w1.alloc (.cells #[.slice none 0 0] 38) = w2 at hw2 hx2 ⊢
  obtain ⟨p, hp⟩ : ∃ p, p = w1.heap.size := ⟨_, rfl⟩
  rw [← hp] at hw2
  try simp only [← hp]
  have hp1 : w1.heap.size ≤ p := by omega
  clear hp
  have hS : Ex (fun _ => False) w1 w2.drew := hx2.drew
  have HW2 := Lib.hid (hw2.keep (S := fun _ => False) (Ex.refl _ w2).drew id (fun _ _ _ => id))
  clear hw2
  refine wp_region_held_drew (S := fun W => Ex (fun _ => False) w1 W) (by kernel_rfl) hS (fun _ => ?_)
  refine wpAnyH_take (i := 0) (oi := { dst := some 28, op := Go.Op.move (Go.Operand.tmp 4), type := 36, pos := "ether.go:75", after := #[], guard := none }) (v := ?v1) rfl (by kernel_rfl) (by kernel_rfl) (by kernel_rfl) (fun _ _ _ h => h) (Or.inl ⟨by rfl, ?hy1⟩) (by assumption) ?rest1
  case hy1 => (intro w hSw; (try dsimp only at hSw); go_simp <;> with_reducible rfl)
  try simp only [Act.put, List.setIfInBounds_toArray, List.set_cons_zero, List.set_cons_succ]
  refine wpAnyH_take (i := 1) (oi := { dst := some 29, op := Go.Op.fieldAddr 76 (Go.Operand.tmp 1) 0, type := 0, pos := "ether.go:75", after := #[], guard := none }) (v := ?v2) rfl (by kernel_rfl) (by kernel_rfl) (by kernel_rfl) (fun _ _ _ h => h) (Or.inl ⟨by rfl, ?hy2⟩) (by assumption) ?rest2
  case hy2 => (intro w hSw; (try dsimp only at hSw); go_simp <;> with_reducible rfl)
  try simp only [Act.put, List.setIfInBounds_toArray, List.set_cons_zero, List.set_cons_succ]
  refine wpAnyH_take (i := 2) (oi := { dst := some 30, op := Go.Op.slice 74 (Go.Operand.tmp 29) none none none, type := 23, pos := "ether.go:75", after := #[{ on := 1, ground := Go.Ground.data }], guard := none }) (v := ?v3) rfl (by kernel_rfl) (by kernel_rfl) (by kernel_rfl) (fun _ _ _ h => h) (Or.inl ⟨by rfl, ?hy3⟩) (by assumption) ?rest3
  case hy3 => (intro w hSw; (try dsimp only at hSw); go_simp <;> with_reducible rfl)
  try simp only [Act.put, List.setIfInBounds_toArray, List.set_cons_zero, List.set_cons_succ]
  refine wpAnyH_take (i := 4) (oi := { dst := some 32, op := Go.Op.fieldAddr 76 (Go.Operand.tmp 1) 1, type := 0, pos := "ether.go:75", after := #[], guard := none }) (v := ?v4) rfl (by kernel_rfl) (by kernel_rfl) (by kernel_rfl) (fun _ _ _ h => h) (Or.inl ⟨by rfl, ?hy4⟩) (by assumption) ?rest4
  case hy4 => (intro w hSw; (try dsimp only at hSw); go_simp <;> with_reducible rfl)
  try simp only [Act.put, List.setIfInBounds_toArray, List.set_cons_zero, List.set_cons_succ]
  refine wpAnyH_take (i := 5) (oi := { dst := some 33, op := Go.Op.slice 74 (Go.Operand.tmp 32) none none none, type := 23, pos := "ether.go:75", after := #[{ on := 4, ground := Go.Ground.data }], guard := none }) (v := ?v5) rfl (by kernel_rfl) (by kernel_rfl) (by kernel_rfl) (fun _ _ _ h => h) (Or.inl ⟨by rfl, ?hy5⟩) (by assumption) ?rest5
  case hy5 => (intro w hSw; (try dsimp only at hSw); go_simp <;> with_reducible rfl)
  try simp only [Act.put, List.setIfInBounds_toArray, List.set_cons_zero, List.set_cons_succ]
  refine wpAnyH_ready (rs := [3]) (by kernel_rfl) (by simp) ?_
  refine AllReadyH.cons (o := { dst := some 31, op := Go.Op.call { callee := Go.Callee.value (Go.Operand.func 25), args := #[Go.Operand.tmp 28, Go.Operand.tmp 30], argTypes := #[36, 23] }, type := 36, pos := "ether.go:75", after := #[{ on := 0, ground := Go.Ground.data }, { on := 2, ground := Go.Ground.data }], guard := none }) rfl (fun K hK => ?_) AllReadyH.nil
  go_simp
  refine (wbytes_any _ p none [] [d0, d1, d2, d3, d4, d5] _ _ HW2.out (HRD.out.keep hS (fun _ _ _ => id)) (by simp)).mono ?_
  rintro e w3 ⟨rfl, hw3⟩
  obtain ⟨q3, h31, h32, h33⟩ := writer_step (B := w1.heap.size) (fun k h => by cases h) hS.size hw3
  have hS3 := hS.andThen h33 (fun i hi e => by rcases e with e | e <;> omega)
  have HW3 := Lib.hid h31
  have HQ3 := Lib.hid h32
  clear h31 h32 h33 hw3
  refine hK.out _ _ hS3 (fun _ => ?_)
  refine wpAnyH_ready (rs := [6]) (by kernel_rfl) (by simp) ?_
  refine AllReadyH.cons (o := { dst := some 34, op := Go.Op.call { callee := Go.Callee.value (Go.Operand.func 25), args := #[Go.Operand.tmp 31, Go.Operand.tmp 33], argTypes := #[36, 23] }, type := 36, pos := "ether.go:75", after := #[{ on := 3, ground := Go.Ground.data }, { on := 5, ground := Go.Ground.data }, { on := 3, ground := Go.Ground.chain }], guard := none }) rfl (fun K hK => ?_) AllReadyH.nil
  go_simp
  refine (wbytes_any _ p q3 _ [s0, s1, s2, s3, s4, s5] _ w3 HW3.out (HRS.out.keep hS3 (fun _ _ _ => id)) (by simp)).mono ?_
  rintro e w4 ⟨rfl, hw4⟩
  obtain ⟨q4, h41, h42, h43⟩ := writer_step HQ3.out hS3.size hw4
  have hS4 := hS3.andThen h43 (fun i hi e => by rcases e with e | e <;> omega)
  refine hK.out _ _ hS4 (fun _ => ?_)
  refine wpAnyH_done (by kernel_rfl) ?_ _
  have HW4 := Lib.hid h41
  have HQ4 := Lib.hid h42
  have HX4 := Lib.hid hS4
  clear h41 h42 h43 hw4 hS3 HW3 HQ3 HW2
  have C12 := Lib.hid c12
  have c12 := hS4.cell c12 id
  go_upto_region 7 with fail
  obtain ⟨qq, hqq⟩ : ∃ qq, qq = q4 := ⟨_, rfl⟩
  obtain ⟨wq, hwq⟩ : ∃ wq, wq = w4 := ⟨_, rfl⟩
  subst hqq hwq
  have HXq := HX4
  have HQq := HQ4
  obtain ⟨L, hL⟩ : ∃ L, L = [] ++ [d0, d1, d2, d3, d4, d5] ++ [s0, s1, s2, s3, s4, s5] := ⟨_, rfl⟩
  have h61 := HW4.out
  rw [← hL] at h61
  have HWq := Lib.hid h61
  have hLl : L.length ≤ 16 := by rw [hL]; simp
  have HL := Lib.hid hL
  clear h61 hL
  have hSq : Ex (fun _ => False) w1 wq.drew := HXq.out.drew
  have HWd := Lib.hid (HWq.out.keep (S := fun _ => False) (Ex.refl _ wq).drew id (fun _ _ _ => id))
  refine wp_region_held_drew (S := fun W => Ex (fun _ => False) w1 W) (by kernel_rfl) hSq (fun _ => ?_)
  refine wpAnyH_take (i := 0) (oi := { dst := some 44, op := Go.Op.move (Go.Operand.tmp 4), type := 36, pos := "ether.go:79", after := #[], guard := none }) (v := ?v6) rfl (by kernel_rfl) (by kernel_rfl) (by kernel_rfl) (fun _ _ _ h => h) (Or.inl ⟨by rfl, ?hy6⟩) (by assumption) ?rest6
  case hy6 => (intro w hSw; (try dsimp only at hSw); have c13 := hSw.cell c13 id; have c14 := hSw.cell c14 id; go_simp <;> with_reducible rfl)
  try simp only [Act.put, List.setIfInBounds_toArray, List.set_cons_zero, List.set_cons_succ]
  refine wpAnyH_take (i := 1) (oi := { dst := some 45, op := Go.Op.fieldAddr 76 (Go.Operand.tmp 1) 3, type := 0, pos := "ether.go:79", after := #[], guard := none }) (v := ?v7) rfl (by kernel_rfl) (by kernel_rfl) (by kernel_rfl) (fun _ _ _ h => h) (Or.inl ⟨by rfl, ?hy7⟩) (by assumption) ?rest7
  case hy7 => (intro w hSw; (try dsimp only at hSw); have c13 := hSw.cell c13 id; have c14 := hSw.cell c14 id; go_simp <;> with_reducible rfl)
  try simp only [Act.put, List.setIfInBounds_toArray, List.set_cons_zero, List.set_cons_succ]
  refine wpAnyH_take (i := 2) (oi := { dst := some 46, op := Go.Op.load 31 (Go.Operand.tmp 45), type := 31, pos := "ether.go:79", after := #[{ on := 1, ground := Go.Ground.data }], guard := none }) (v := ?v8) rfl (by kernel_rfl) (by kernel_rfl) (by kernel_rfl) (fun _ _ _ h => h) (Or.inl ⟨by rfl, ?hy8⟩) (by assumption) ?rest8
  case hy8 => (intro w hSw; (try dsimp only at hSw); have c13 := hSw.cell c13 id; have c14 := hSw.cell c14 id; go_simp <;> with_reducible rfl)
  try simp only [Act.put, List.setIfInBounds_toArray, List.set_cons_zero, List.set_cons_succ]
  refine wpAnyH_take (i := 4) (oi := { dst := some 48, op := Go.Op.fieldAddr 76 (Go.Operand.tmp 1) 4, type := 0, pos := "ether.go:79", after := #[], guard := none }) (v := ?v9) rfl (by kernel_rfl) (by kernel_rfl) (by kernel_rfl) (fun _ _ _ h => h) (Or.inl ⟨by rfl, ?hy9⟩) (by assumption) ?rest9
  case hy9 => (intro w hSw; (try dsimp only at hSw); have c13 := hSw.cell c13 id; have c14 := hSw.cell c14 id; go_simp <;> with_reducible rfl)
  try simp only [Act.put, List.setIfInBounds_toArray, List.set_cons_zero, List.set_cons_succ]
  refine wpAnyH_take (i := 5) (oi := { dst := some 49, op := Go.Op.load 23 (Go.Operand.tmp 48), type := 23, pos := "ether.go:79", after := #[{ on := 4, ground := Go.Ground.data }], guard := none }) (v := ?v10) rfl (by kernel_rfl) (by kernel_rfl) (by kernel_rfl) (fun _ _ _ h => h) (Or.inl ⟨by rfl, ?hy10⟩) (by assumption) ?rest10
  case hy10 => (intro w hSw; (try dsimp only at hSw); have c13 := hSw.cell c13 id; have c14 := hSw.cell c14 id; go_simp <;> with_reducible rfl)
  try simp only [Act.put, List.setIfInBounds_toArray, List.set_cons_zero, List.set_cons_succ]
  refine wpAnyH_ready (rs := [3]) (by kernel_rfl) (by simp) ?_
  refine AllReadyH.cons (o := { dst := some 47, op := Go.Op.call { callee := Go.Callee.value (Go.Operand.func 21), args := #[Go.Operand.tmp 44, Go.Operand.tmp 46], argTypes := #[36, 31] }, type := 36, pos := "ether.go:79", after := #[{ on := 0, ground := Go.Ground.data }, { on := 2, ground := Go.Ground.data }], guard := none }) rfl (fun K hK => ?_) AllReadyH.nil
  go_simp
  refine (wu16_any p qq L (ty : Int) _ (by omega) (by omega) HWd.out (by omega)).mono ?_
  rintro e w5 ⟨rfl, hw5⟩
  obtain ⟨q5, h51, h52, h53⟩ := writer_step HQq.out hSq.size hw5
  have hS5 := hSq.andThen h53 (fun i hi e => by rcases e with e | e <;> omega)
  have HW5 := Lib.hid h51
  have HQ5 := Lib.hid h52
  clear h51 h52 h53 hw5
  refine hK.out _ _ hS5 (fun _ => ?_)
  refine wpAnyH_ready (rs := [6]) (by kernel_rfl) (by simp) ?_
  refine AllReadyH.cons (o := { dst := some 50, op := Go.Op.call { callee := Go.Callee.value (Go.Operand.func 25), args := #[Go.Operand.tmp 47, Go.Operand.tmp 49], argTypes := #[36, 23] }, type := 36, pos := "ether.go:79", after := #[{ on := 3, ground := Go.Ground.data }, { on := 5, ground := Go.Ground.data }, { on := 3, ground := Go.Ground.chain }], guard := none }) rfl (fun K hK => ?_) AllReadyH.nil
  go_simp
  refine (wbytes_any _ p q5 (L ++ txt (ty : Int) 2) b _ w5 HW5.out (HRB.out.keep hS5 (fun _ _ _ => id)) (by simp [txt_len]; omega)).mono ?_
  rintro e w6 ⟨rfl, hw6⟩
  obtain ⟨q6, h61, h62, h63⟩ := writer_step HQ5.out hS5.size hw6
  have hS6 := hS5.andThen h63 (fun i hi e => by rcases e with e | e <;> omega)
  obtain ⟨M, hM⟩ : ∃ M, M = L ++ txt (ty : Int) 2 ++ b := ⟨_, rfl⟩
  have hMl : M.length ≤ 1000000000 := by (rw [hM]; simp [txt_len]; omega)
  rw [← hM] at h61
  have HW6 := Lib.hid h61
  have HM := Lib.hid hM
  clear h61 h62 h63 hw6 hM
  refine hK.out _ _ hS6 (fun _ => ?_)
  refine wpAnyH_ready (rs := [7]) (by kernel_rfl) (by simp) ?_
  refine AllReadyH.cons (o := { dst := some 51, op := Go.Op.call { callee := Go.Callee.value (Go.Operand.func 23), args := #[Go.Operand.tmp 50], argTypes := #[36] }, type := 23, pos := "ether.go:79", after := #[{ on := 6, ground := Go.Ground.data }, { on := 6, ground := Go.Ground.chain }], guard := none }) rfl (fun K hK => ?_) AllReadyH.nil
  go_simp
  refine (wdone_any p q6 M w6 HW6.out hMl).mono ?_
  rintro e w7 ⟨A7, c7, rfl, ho7, hx7⟩
  have hS7 := hS6.trans hx7
  refine hK.out _ _ hS7 (fun _ => ?_)
  refine wpAnyH_take (i := 8) (oi := { dst := some 5, op := Go.Op.assign (Go.Operand.tmp 51), type := 23, pos := "ether.go:79", after := #[{ on := 7, ground := Go.Ground.data }, { on := 7, ground := Go.Ground.chain }, { on := 0, ground := Go.Ground.phase }, { on := 1, ground := Go.Ground.phase }, { on := 2, ground := Go.Ground.phase }, { on := 3, ground := Go.Ground.phase }, { on := 4, ground := Go.Ground.phase }, { on := 5, ground := Go.Ground.phase }, { on := 6, ground := Go.Ground.phase }, { on := 7, ground := Go.Ground.phase }], guard := none }) (v := ?v11) rfl (by kernel_rfl) (by kernel_rfl) (by kernel_rfl) (fun _ _ _ h => h) (Or.inl ⟨by rfl, ?hy11⟩) (by assumption) ?rest11
  case hy11 => (intro w hSw; (try dsimp only at hSw); have c13 := hSw.cell c13 id; have c14 := hSw.cell c14 id; go_simp <;> with_reducible rfl)
  try simp only [Act.put, List.setIfInBounds_toArray, List.set_cons_zero, List.set_cons_succ]
  refine wpAnyH_done (by kernel_rfl) ?_ _
  have hw6s := hS6.size
  have HO7 := Lib.hid (ho7.mono (show w.heap.size ≤ w6.heap.size by omega))
  have HX7 := Lib.hid (HA1.out.trans hS7)
  clear ho7
  have hfm : fbytes (⟨[d0, d1, d2, d3, d4, d5], [s0, s1, s2, s3, s4, s5], (-1), ty, b⟩ : Fr) = M := by
    skip
    rw [HM.out, HL.out]; simp [fbytes]
  have HFM := Lib.hid hfm
  clear hfm
  by_cases hbg : 9000 < M.length
  · go_wp2_with fail
    refine (ewrong_any (fun _ => False) [] 7 _ w7 rfl).mono ?_
    rintro e w8 ⟨v8, rfl, he8, hx8⟩
    have HX8 := Lib.hid (HX7.out.trans hx8)
    have HE8 := Lib.hid he8
    have hw7s := HX7.out.size
    clear hx8 he8
    go_wp2_with fail
    go_ret2
    rw [HFM.out]
    exact ⟨HX8.out, .inl ⟨hbg, v8, rfl, EC.mono (fun j hj => by rcases hj with h | h; exact h.elim; omega) HE8.out⟩⟩
  · go_wp2_with fail
    go_ret2
    rw [HFM.out]
    exact ⟨HX7.out, .inr ⟨by omega, A7, c7, rfl, HO7.out⟩⟩

set_option maxRecDepth 100000 in
set_option maxHeartbeats 4000000 in
theorem bytes_tag (P : Nat → Prop) (d0 d1 d2 d3 d4 d5 s0 s1 s2 s3 s4 s5 : UInt8) (vl : Int) (ty : Nat) (b : List UInt8) (A : Option Addr) (n c : Nat) (w : World) (hr : RB w P (.slice A n c) b) (hb : b.length ≤ 1000000) (hv1 : -9223372036854775808 ≤ vl) (hv2 : vl ≤ 9223372036854775807) (ht : ty < 65536) (hv : 0 ≤ vl) (hv3 : vl ≤ 65535) :
    Calls Tryd.prog 38 #[.agg #[.int .u8 (d0.toNat : Int), .int .u8 (d1.toNat : Int), .int .u8 (d2.toNat : Int), .int .u8 (d3.toNat : Int), .int .u8 (d4.toNat : Int), .int .u8 (d5.toNat : Int), .int .u8 (s0.toNat : Int), .int .u8 (s1.toNat : Int), .int .u8 (s2.toNat : Int), .int .u8 (s3.toNat : Int), .int .u8 (s4.toNat : Int), .int .u8 (s5.toNat : Int), .int .i64 vl, .int .u16 (ty : Int), .slice A n c]] w fun e w' => Ex (fun _ => False) w w' ∧ ((9000 < (fbytes (⟨[d0, d1, d2, d3, d4, d5], [s0, s1, s2, s3, s4, s5], vl, ty, b⟩ : Fr)).length ∧ ∃ v, e = .returned (.tuple #[.slice none 0 0, v]) ∧ EC w' (fun j => w.heap.size ≤ j) [lay3] v 7) ∨
      ((fbytes (⟨[d0, d1, d2, d3, d4, d5], [s0, s1, s2, s3, s4, s5], vl, ty, b⟩ : Fr)).length ≤ 9000 ∧ ∃ A' c', e = .returned (.tuple #[.slice (some A') (fbytes (⟨[d0, d1, d2, d3, d4, d5], [s0, s1, s2, s3, s4, s5], vl, ty, b⟩ : Fr)).length c', .nilIface]) ∧ OB w' w.heap.size (.slice (some A') (fbytes (⟨[d0, d1, d2, d3, d4, d5], [s0, s1, s2, s3, s4, s5], vl, ty, b⟩ : Fr)).length c') (fbytes (⟨[d0, d1, d2, d3, d4, d5], [s0, s1, s2, s3, s4, s5], vl, ty, b⟩ : Fr)))) := by
  have hb1 : (vl == -1) = decide (vl = -1) := by by_cases h : vl = -1 <;> simp [h]
  obtain ⟨fb, hfb⟩ : ∃ fb, fb = w.heap.size := ⟨_, rfl⟩
  have ha : Ex (fun _ => False) w (w.alloc (.cells #[.int .u8 (d0.toNat : Int), .int .u8 (d1.toNat : Int), .int .u8 (d2.toNat : Int), .int .u8 (d3.toNat : Int), .int .u8 (d4.toNat : Int), .int .u8 (d5.toNat : Int), .int .u8 (s0.toNat : Int), .int .u8 (s1.toNat : Int), .int .u8 (s2.toNat : Int), .int .u8 (s3.toNat : Int), .int .u8 (s4.toNat : Int), .int .u8 (s5.toNat : Int), .int .i64 vl, .int .u16 (ty : Int), .slice A n c] 76)) := (Ex.refl _ w).alloc _
  have hbl : (w.alloc (.cells #[.int .u8 (d0.toNat : Int), .int .u8 (d1.toNat : Int), .int .u8 (d2.toNat : Int), .int .u8 (d3.toNat : Int), .int .u8 (d4.toNat : Int), .int .u8 (d5.toNat : Int), .int .u8 (s0.toNat : Int), .int .u8 (s1.toNat : Int), .int .u8 (s2.toNat : Int), .int .u8 (s3.toNat : Int), .int .u8 (s4.toNat : Int), .int .u8 (s5.toNat : Int), .int .i64 vl, .int .u16 (ty : Int), .slice A n c] 76)).heap[fb]? = some (.cells #[.int .u8 (d0.toNat : Int), .int .u8 (d1.toNat : Int), .int .u8 (d2.toNat : Int), .int .u8 (d3.toNat : Int), .int .u8 (d4.toNat : Int), .int .u8 (d5.toNat : Int), .int .u8 (s0.toNat : Int), .int .u8 (s1.toNat : Int), .int .u8 (s2.toNat : Int), .int .u8 (s3.toNat : Int), .int .u8 (s4.toNat : Int), .int .u8 (s5.toNat : Int), .int .i64 vl, .int .u16 (ty : Int), .slice A n c] 76) := by rw [hfb]; exact heap_alloc_new w _
  have HRB := Lib.hid (hr.keep ha (fun _ _ _ => id))
  have hw1s : w.heap.size < (w.alloc (.cells #[.int .u8 (d0.toNat : Int), .int .u8 (d1.toNat : Int), .int .u8 (d2.toNat : Int), .int .u8 (d3.toNat : Int), .int .u8 (d4.toNat : Int), .int .u8 (d5.toNat : Int), .int .u8 (s0.toNat : Int), .int .u8 (s1.toNat : Int), .int .u8 (s2.toNat : Int), .int .u8 (s3.toNat : Int), .int .u8 (s4.toNat : Int), .int .u8 (s5.toNat : Int), .int .i64 vl, .int .u16 (ty : Int), .slice A n c] 76)).heap.size := by simp
  have hf1 : w.heap.size ≤ fb := by omega
  have HFB := Lib.hid hfb
  clear hr hfb
  go_enter Tryd.func38, Tryd.ntmps38
  go_upto_region 1 with fail
  rw [← HFB.out]
  generalize w.alloc (.cells #[.int .u8 (d0.toNat : Int), .int .u8 (d1.toNat : Int), .int .u8 (d2.toNat : Int), .int .u8 (d3.toNat : Int), .int .u8 (d4.toNat : Int), .int .u8 (d5.toNat : Int), .int .u8 (s0.toNat : Int), .int .u8 (s1.toNat : Int), .int .u8 (s2.toNat : Int), .int .u8 (s3.toNat : Int), .int .u8 (s4.toNat : Int), .int .u8 (s5.toNat : Int), .int .i64 vl, .int .u16 (ty : Int), .slice A n c] 76) = w1 at ha hbl HRB hw1s ⊢
  have c0 := row_cell (k := 0) (v := .int .u8 (d0.toNat : Int)) hbl rfl
  have c1 := row_cell (k := 1) (v := .int .u8 (d1.toNat : Int)) hbl rfl
  have c2 := row_cell (k := 2) (v := .int .u8 (d2.toNat : Int)) hbl rfl
  have c3 := row_cell (k := 3) (v := .int .u8 (d3.toNat : Int)) hbl rfl
  have c4 := row_cell (k := 4) (v := .int .u8 (d4.toNat : Int)) hbl rfl
  have c5 := row_cell (k := 5) (v := .int .u8 (d5.toNat : Int)) hbl rfl
  have c6 := row_cell (k := 6) (v := .int .u8 (s0.toNat : Int)) hbl rfl
  have c7 := row_cell (k := 7) (v := .int .u8 (s1.toNat : Int)) hbl rfl
  have c8 := row_cell (k := 8) (v := .int .u8 (s2.toNat : Int)) hbl rfl
  have c9 := row_cell (k := 9) (v := .int .u8 (s3.toNat : Int)) hbl rfl
  have c10 := row_cell (k := 10) (v := .int .u8 (s4.toNat : Int)) hbl rfl
  have c11 := row_cell (k := 11) (v := .int .u8 (s5.toNat : Int)) hbl rfl
  have c12 := row_cell (k := 12) (v := .int .i64 vl) hbl rfl
  have c13 := row_cell (k := 13) (v := .int .u16 (ty : Int)) hbl rfl
  have c14 := row_cell (k := 14) (v := .slice A n c) hbl rfl
  have hfl := row_lt hbl
  have HA1 := Lib.hid ha
  have hrd : RB w1 (fun j => j = fb) (.slice (some ⟨fb, 0, none⟩) 6 6) [d0, d1, d2, d3, d4, d5] := ⟨by simp, _, _, rfl, by simp, fun i hi => ⟨fb, 0, rfl, rfl, by
    have : i = 0 ∨ i = 1 ∨ i = 2 ∨ i = 3 ∨ i = 4 ∨ i = 5 := by simp at hi; omega
    rcases this with rfl | rfl | rfl | rfl | rfl | rfl
    · exact c0
    · exact c1
    · exact c2
    · exact c3
    · exact c4
    · exact c5⟩⟩
  have hrs : RB w1 (fun j => j = fb) (.slice (some ⟨fb, 6, none⟩) 6 6) [s0, s1, s2, s3, s4, s5] := ⟨by simp, _, _, rfl, by simp, fun i hi => ⟨fb, 6, rfl, rfl, by
    have : i = 0 ∨ i = 1 ∨ i = 2 ∨ i = 3 ∨ i = 4 ∨ i = 5 := by simp at hi; omega
    rcases this with rfl | rfl | rfl | rfl | rfl | rfl
    · exact c6
    · exact c7
    · exact c8
    · exact c9
    · exact c10
    · exact c11⟩⟩
  have HRD := Lib.hid hrd
  have HRS := Lib.hid hrs
  clear ha hbl hrd hrs c0 c1 c2 c3 c4 c5 c6 c7 c8 c9 c10 c11
  go_upto_region 4 with fail
  have hw2 := WR.zero w1 38 w1.heap.size rfl
  have hx2 : Ex (fun _ => False) w1 (w1.alloc (.cells #[.slice none 0 0] 38)) := (Ex.refl _ w1).alloc _
  generalize w1.alloc (.cells #[.slice none 0 0] 38) = w2 at hw2 hx2 ⊢
  obtain ⟨p, hp⟩ : ∃ p, p = w1.heap.size := ⟨_, rfl⟩
  rw [← hp] at hw2
  try simp only [← hp]
  have hp1 : w1.heap.size ≤ p := by omega
  clear hp
  have hS : Ex (fun _ => False) w1 w2.drew := hx2.drew
  have HW2 := Lib.hid (hw2.keep (S := fun _ => False) (Ex.refl _ w2).drew id (fun _ _ _ => id))
  clear hw2
  refine wp_region_held_drew (S := fun W => Ex (fun _ => False) w1 W) (by kernel_rfl) hS (fun _ => ?_)
  refine wpAnyH_take (i := 0) (oi := { dst := some 28, op := Go.Op.move (Go.Operand.tmp 4), type := 36, pos := "ether.go:75", after := #[], guard := none }) (v := ?v12) rfl (by kernel_rfl) (by kernel_rfl) (by kernel_rfl) (fun _ _ _ h => h) (Or.inl ⟨by rfl, ?hy12⟩) (by assumption) ?rest12
  case hy12 => (intro w hSw; (try dsimp only at hSw); go_simp <;> with_reducible rfl)
  try simp only [Act.put, List.setIfInBounds_toArray, List.set_cons_zero, List.set_cons_succ]
  refine wpAnyH_take (i := 1) (oi := { dst := some 29, op := Go.Op.fieldAddr 76 (Go.Operand.tmp 1) 0, type := 0, pos := "ether.go:75", after := #[], guard := none }) (v := ?v13) rfl (by kernel_rfl) (by kernel_rfl) (by kernel_rfl) (fun _ _ _ h => h) (Or.inl ⟨by rfl, ?hy13⟩) (by assumption) ?rest13
  case hy13 => (intro w hSw; (try dsimp only at hSw); go_simp <;> with_reducible rfl)
  try simp only [Act.put, List.setIfInBounds_toArray, List.set_cons_zero, List.set_cons_succ]
  refine wpAnyH_take (i := 2) (oi := { dst := some 30, op := Go.Op.slice 74 (Go.Operand.tmp 29) none none none, type := 23, pos := "ether.go:75", after := #[{ on := 1, ground := Go.Ground.data }], guard := none }) (v := ?v14) rfl (by kernel_rfl) (by kernel_rfl) (by kernel_rfl) (fun _ _ _ h => h) (Or.inl ⟨by rfl, ?hy14⟩) (by assumption) ?rest14
  case hy14 => (intro w hSw; (try dsimp only at hSw); go_simp <;> with_reducible rfl)
  try simp only [Act.put, List.setIfInBounds_toArray, List.set_cons_zero, List.set_cons_succ]
  refine wpAnyH_take (i := 4) (oi := { dst := some 32, op := Go.Op.fieldAddr 76 (Go.Operand.tmp 1) 1, type := 0, pos := "ether.go:75", after := #[], guard := none }) (v := ?v15) rfl (by kernel_rfl) (by kernel_rfl) (by kernel_rfl) (fun _ _ _ h => h) (Or.inl ⟨by rfl, ?hy15⟩) (by assumption) ?rest15
  case hy15 => (intro w hSw; (try dsimp only at hSw); go_simp <;> with_reducible rfl)
  try simp only [Act.put, List.setIfInBounds_toArray, List.set_cons_zero, List.set_cons_succ]
  refine wpAnyH_take (i := 5) (oi := { dst := some 33, op := Go.Op.slice 74 (Go.Operand.tmp 32) none none none, type := 23, pos := "ether.go:75", after := #[{ on := 4, ground := Go.Ground.data }], guard := none }) (v := ?v16) rfl (by kernel_rfl) (by kernel_rfl) (by kernel_rfl) (fun _ _ _ h => h) (Or.inl ⟨by rfl, ?hy16⟩) (by assumption) ?rest16
  case hy16 => (intro w hSw; (try dsimp only at hSw); go_simp <;> with_reducible rfl)
  try simp only [Act.put, List.setIfInBounds_toArray, List.set_cons_zero, List.set_cons_succ]
  refine wpAnyH_ready (rs := [3]) (by kernel_rfl) (by simp) ?_
  refine AllReadyH.cons (o := { dst := some 31, op := Go.Op.call { callee := Go.Callee.value (Go.Operand.func 25), args := #[Go.Operand.tmp 28, Go.Operand.tmp 30], argTypes := #[36, 23] }, type := 36, pos := "ether.go:75", after := #[{ on := 0, ground := Go.Ground.data }, { on := 2, ground := Go.Ground.data }], guard := none }) rfl (fun K hK => ?_) AllReadyH.nil
  go_simp
  refine (wbytes_any _ p none [] [d0, d1, d2, d3, d4, d5] _ _ HW2.out (HRD.out.keep hS (fun _ _ _ => id)) (by simp)).mono ?_
  rintro e w3 ⟨rfl, hw3⟩
  obtain ⟨q3, h31, h32, h33⟩ := writer_step (B := w1.heap.size) (fun k h => by cases h) hS.size hw3
  have hS3 := hS.andThen h33 (fun i hi e => by rcases e with e | e <;> omega)
  have HW3 := Lib.hid h31
  have HQ3 := Lib.hid h32
  clear h31 h32 h33 hw3
  refine hK.out _ _ hS3 (fun _ => ?_)
  refine wpAnyH_ready (rs := [6]) (by kernel_rfl) (by simp) ?_
  refine AllReadyH.cons (o := { dst := some 34, op := Go.Op.call { callee := Go.Callee.value (Go.Operand.func 25), args := #[Go.Operand.tmp 31, Go.Operand.tmp 33], argTypes := #[36, 23] }, type := 36, pos := "ether.go:75", after := #[{ on := 3, ground := Go.Ground.data }, { on := 5, ground := Go.Ground.data }, { on := 3, ground := Go.Ground.chain }], guard := none }) rfl (fun K hK => ?_) AllReadyH.nil
  go_simp
  refine (wbytes_any _ p q3 _ [s0, s1, s2, s3, s4, s5] _ w3 HW3.out (HRS.out.keep hS3 (fun _ _ _ => id)) (by simp)).mono ?_
  rintro e w4 ⟨rfl, hw4⟩
  obtain ⟨q4, h41, h42, h43⟩ := writer_step HQ3.out hS3.size hw4
  have hS4 := hS3.andThen h43 (fun i hi e => by rcases e with e | e <;> omega)
  refine hK.out _ _ hS4 (fun _ => ?_)
  refine wpAnyH_done (by kernel_rfl) ?_ _
  have HW4 := Lib.hid h41
  have HQ4 := Lib.hid h42
  have HX4 := Lib.hid hS4
  clear h41 h42 h43 hw4 hS3 HW3 HQ3 HW2
  have C12 := Lib.hid c12
  have c12 := hS4.cell c12 id
  go_upto_region 6 with fail
  have hS4d : Ex (fun _ => False) w1 w4.drew := HX4.out.drew
  have q1 : IntKind.u16.wrap vl = vl := by rw [IntKind.wrap_u16]; omega
  have HW4d := Lib.hid (HW4.out.keep (S := fun _ => False) (Ex.refl _ w4).drew id (fun _ _ _ => id))
  refine wp_region_held_drew (S := fun W => Ex (fun _ => False) w1 W) (by kernel_rfl) hS4d (fun _ => ?_)
  refine wpAnyH_take (i := 0) (oi := { dst := some 38, op := Go.Op.move (Go.Operand.tmp 4), type := 36, pos := "ether.go:77", after := #[], guard := none }) (v := ?v17) rfl (by kernel_rfl) (by kernel_rfl) (by kernel_rfl) (fun _ _ _ h => h) (Or.inl ⟨by rfl, ?hy17⟩) (by assumption) ?rest17
  case hy17 => (intro w hSw; (try dsimp only at hSw); have c12 := hSw.cell C12.out id; go_simp <;> with_reducible rfl)
  try simp only [Act.put, List.setIfInBounds_toArray, List.set_cons_zero, List.set_cons_succ]
  refine wpAnyH_take (i := 2) (oi := { dst := some 40, op := Go.Op.fieldAddr 76 (Go.Operand.tmp 1) 2, type := 0, pos := "ether.go:77", after := #[], guard := none }) (v := ?v18) rfl (by kernel_rfl) (by kernel_rfl) (by kernel_rfl) (fun _ _ _ h => h) (Or.inl ⟨by rfl, ?hy18⟩) (by assumption) ?rest18
  case hy18 => (intro w hSw; (try dsimp only at hSw); have c12 := hSw.cell C12.out id; go_simp <;> with_reducible rfl)
  try simp only [Act.put, List.setIfInBounds_toArray, List.set_cons_zero, List.set_cons_succ]
  refine wpAnyH_take (i := 3) (oi := { dst := some 41, op := Go.Op.load 3 (Go.Operand.tmp 40), type := 3, pos := "ether.go:77", after := #[{ on := 2, ground := Go.Ground.data }], guard := none }) (v := ?v19) rfl (by kernel_rfl) (by kernel_rfl) (by kernel_rfl) (fun _ _ _ h => h) (Or.inl ⟨by rfl, ?hy19⟩) (by assumption) ?rest19
  case hy19 => (intro w hSw; (try dsimp only at hSw); have c12 := hSw.cell C12.out id; go_simp <;> with_reducible rfl)
  try simp only [Act.put, List.setIfInBounds_toArray, List.set_cons_zero, List.set_cons_succ]
  refine wpAnyH_take (i := 4) (oi := { dst := some 42, op := Go.Op.convert 3 31 (Go.Operand.tmp 41), type := 31, pos := "ether.go:77", after := #[{ on := 3, ground := Go.Ground.data }], guard := none }) (v := ?v20) rfl (by kernel_rfl) (by kernel_rfl) (by kernel_rfl) (fun _ _ _ h => h) (Or.inl ⟨by rfl, ?hy20⟩) (by assumption) ?rest20
  case hy20 => (intro w hSw; (try dsimp only at hSw); have c12 := hSw.cell C12.out id; go_simp <;> with_reducible rfl)
  try simp only [Act.put, List.setIfInBounds_toArray, List.set_cons_zero, List.set_cons_succ]
  refine wpAnyH_ready (rs := [1]) (by kernel_rfl) (by simp) ?_
  refine AllReadyH.cons (o := { dst := some 39, op := Go.Op.call { callee := Go.Callee.value (Go.Operand.func 21), args := #[Go.Operand.tmp 38, Go.Operand.const (Go.Value.int Go.IntKind.u16 33024)], argTypes := #[36, 31] }, type := 36, pos := "ether.go:77", after := #[{ on := 0, ground := Go.Ground.data }], guard := none }) rfl (fun K hK => ?_) AllReadyH.nil
  go_simp
  refine (wu16_any p q4 _ 33024 _ (by omega) (by omega) HW4d.out (by simp)).mono ?_
  rintro e w5 ⟨rfl, hw5⟩
  obtain ⟨q5, h51, h52, h53⟩ := writer_step HQ4.out hS4d.size hw5
  have hS5 := hS4d.andThen h53 (fun i hi e => by rcases e with e | e <;> omega)
  have HW5 := Lib.hid h51
  have HQ5 := Lib.hid h52
  clear h51 h52 h53 hw5
  refine hK.out _ _ hS5 (fun _ => ?_)
  refine wpAnyH_ready (rs := [5]) (by kernel_rfl) (by simp) ?_
  refine AllReadyH.cons (o := { dst := some 43, op := Go.Op.call { callee := Go.Callee.value (Go.Operand.func 21), args := #[Go.Operand.tmp 39, Go.Operand.tmp 42], argTypes := #[36, 31] }, type := 36, pos := "ether.go:77", after := #[{ on := 1, ground := Go.Ground.data }, { on := 4, ground := Go.Ground.data }, { on := 1, ground := Go.Ground.chain }], guard := none }) rfl (fun K hK => ?_) AllReadyH.nil
  go_simp
  refine (wu16_any p q5 _ vl w5 (by omega) (by omega) HW5.out (by simp [txt_len])).mono ?_
  rintro e wq ⟨rfl, hwq⟩
  obtain ⟨qq, h61, h62, h63⟩ := writer_step HQ5.out hS5.size hwq
  have hS6 := hS5.andThen h63 (fun i hi e => by rcases e with e | e <;> omega)
  refine hK.out _ _ hS6 (fun _ => ?_)
  refine wpAnyH_done (by kernel_rfl) ?_ _
  have HXq := Lib.hid hS6
  have HQq := Lib.hid h62
  obtain ⟨L, hL⟩ : ∃ L, L = [] ++ [d0, d1, d2, d3, d4, d5] ++ [s0, s1, s2, s3, s4, s5] ++ txt 33024 2 ++ txt vl 2 := ⟨_, rfl⟩
  rw [← hL] at h61
  have HWq := Lib.hid h61
  have hLl : L.length ≤ 16 := by rw [hL]; simp [txt_len]
  have HL := Lib.hid hL
  clear h61 h62 h63 hwq hL HW4 HQ4 HX4 HW5 HQ5 HW4d
  go_upto_region 7 with fail
  have hSq : Ex (fun _ => False) w1 wq.drew := HXq.out.drew
  have HWd := Lib.hid (HWq.out.keep (S := fun _ => False) (Ex.refl _ wq).drew id (fun _ _ _ => id))
  refine wp_region_held_drew (S := fun W => Ex (fun _ => False) w1 W) (by kernel_rfl) hSq (fun _ => ?_)
  refine wpAnyH_take (i := 0) (oi := { dst := some 44, op := Go.Op.move (Go.Operand.tmp 4), type := 36, pos := "ether.go:79", after := #[], guard := none }) (v := ?v21) rfl (by kernel_rfl) (by kernel_rfl) (by kernel_rfl) (fun _ _ _ h => h) (Or.inl ⟨by rfl, ?hy21⟩) (by assumption) ?rest21
  case hy21 => (intro w hSw; (try dsimp only at hSw); have c13 := hSw.cell c13 id; have c14 := hSw.cell c14 id; go_simp <;> with_reducible rfl)
  try simp only [Act.put, List.setIfInBounds_toArray, List.set_cons_zero, List.set_cons_succ]
  refine wpAnyH_take (i := 1) (oi := { dst := some 45, op := Go.Op.fieldAddr 76 (Go.Operand.tmp 1) 3, type := 0, pos := "ether.go:79", after := #[], guard := none }) (v := ?v22) rfl (by kernel_rfl) (by kernel_rfl) (by kernel_rfl) (fun _ _ _ h => h) (Or.inl ⟨by rfl, ?hy22⟩) (by assumption) ?rest22
  case hy22 => (intro w hSw; (try dsimp only at hSw); have c13 := hSw.cell c13 id; have c14 := hSw.cell c14 id; go_simp <;> with_reducible rfl)
  try simp only [Act.put, List.setIfInBounds_toArray, List.set_cons_zero, List.set_cons_succ]
  refine wpAnyH_take (i := 2) (oi := { dst := some 46, op := Go.Op.load 31 (Go.Operand.tmp 45), type := 31, pos := "ether.go:79", after := #[{ on := 1, ground := Go.Ground.data }], guard := none }) (v := ?v23) rfl (by kernel_rfl) (by kernel_rfl) (by kernel_rfl) (fun _ _ _ h => h) (Or.inl ⟨by rfl, ?hy23⟩) (by assumption) ?rest23
  case hy23 => (intro w hSw; (try dsimp only at hSw); have c13 := hSw.cell c13 id; have c14 := hSw.cell c14 id; go_simp <;> with_reducible rfl)
  try simp only [Act.put, List.setIfInBounds_toArray, List.set_cons_zero, List.set_cons_succ]
  refine wpAnyH_take (i := 4) (oi := { dst := some 48, op := Go.Op.fieldAddr 76 (Go.Operand.tmp 1) 4, type := 0, pos := "ether.go:79", after := #[], guard := none }) (v := ?v24) rfl (by kernel_rfl) (by kernel_rfl) (by kernel_rfl) (fun _ _ _ h => h) (Or.inl ⟨by rfl, ?hy24⟩) (by assumption) ?rest24
  case hy24 => (intro w hSw; (try dsimp only at hSw); have c13 := hSw.cell c13 id; have c14 := hSw.cell c14 id; go_simp <;> with_reducible rfl)
  try simp only [Act.put, List.setIfInBounds_toArray, List.set_cons_zero, List.set_cons_succ]
  refine wpAnyH_take (i := 5) (oi := { dst := some 49, op := Go.Op.load 23 (Go.Operand.tmp 48), type := 23, pos := "ether.go:79", after := #[{ on := 4, ground := Go.Ground.data }], guard := none }) (v := ?v25) rfl (by kernel_rfl) (by kernel_rfl) (by kernel_rfl) (fun _ _ _ h => h) (Or.inl ⟨by rfl, ?hy25⟩) (by assumption) ?rest25
  case hy25 => (intro w hSw; (try dsimp only at hSw); have c13 := hSw.cell c13 id; have c14 := hSw.cell c14 id; go_simp <;> with_reducible rfl)
  try simp only [Act.put, List.setIfInBounds_toArray, List.set_cons_zero, List.set_cons_succ]
  refine wpAnyH_ready (rs := [3]) (by kernel_rfl) (by simp) ?_
  refine AllReadyH.cons (o := { dst := some 47, op := Go.Op.call { callee := Go.Callee.value (Go.Operand.func 21), args := #[Go.Operand.tmp 44, Go.Operand.tmp 46], argTypes := #[36, 31] }, type := 36, pos := "ether.go:79", after := #[{ on := 0, ground := Go.Ground.data }, { on := 2, ground := Go.Ground.data }], guard := none }) rfl (fun K hK => ?_) AllReadyH.nil
  go_simp
  refine (wu16_any p qq L (ty : Int) _ (by omega) (by omega) HWd.out (by omega)).mono ?_
  rintro e w5 ⟨rfl, hw5⟩
  obtain ⟨q5, h51, h52, h53⟩ := writer_step HQq.out hSq.size hw5
  have hS5 := hSq.andThen h53 (fun i hi e => by rcases e with e | e <;> omega)
  have HW5 := Lib.hid h51
  have HQ5 := Lib.hid h52
  clear h51 h52 h53 hw5
  refine hK.out _ _ hS5 (fun _ => ?_)
  refine wpAnyH_ready (rs := [6]) (by kernel_rfl) (by simp) ?_
  refine AllReadyH.cons (o := { dst := some 50, op := Go.Op.call { callee := Go.Callee.value (Go.Operand.func 25), args := #[Go.Operand.tmp 47, Go.Operand.tmp 49], argTypes := #[36, 23] }, type := 36, pos := "ether.go:79", after := #[{ on := 3, ground := Go.Ground.data }, { on := 5, ground := Go.Ground.data }, { on := 3, ground := Go.Ground.chain }], guard := none }) rfl (fun K hK => ?_) AllReadyH.nil
  go_simp
  refine (wbytes_any _ p q5 (L ++ txt (ty : Int) 2) b _ w5 HW5.out (HRB.out.keep hS5 (fun _ _ _ => id)) (by simp [txt_len]; omega)).mono ?_
  rintro e w6 ⟨rfl, hw6⟩
  obtain ⟨q6, h61, h62, h63⟩ := writer_step HQ5.out hS5.size hw6
  have hS6 := hS5.andThen h63 (fun i hi e => by rcases e with e | e <;> omega)
  obtain ⟨M, hM⟩ : ∃ M, M = L ++ txt (ty : Int) 2 ++ b := ⟨_, rfl⟩
  have hMl : M.length ≤ 1000000000 := by (rw [hM]; simp [txt_len]; omega)
  rw [← hM] at h61
  have HW6 := Lib.hid h61
  have HM := Lib.hid hM
  clear h61 h62 h63 hw6 hM
  refine hK.out _ _ hS6 (fun _ => ?_)
  refine wpAnyH_ready (rs := [7]) (by kernel_rfl) (by simp) ?_
  refine AllReadyH.cons (o := { dst := some 51, op := Go.Op.call { callee := Go.Callee.value (Go.Operand.func 23), args := #[Go.Operand.tmp 50], argTypes := #[36] }, type := 23, pos := "ether.go:79", after := #[{ on := 6, ground := Go.Ground.data }, { on := 6, ground := Go.Ground.chain }], guard := none }) rfl (fun K hK => ?_) AllReadyH.nil
  go_simp
  refine (wdone_any p q6 M w6 HW6.out hMl).mono ?_
  rintro e w7 ⟨A7, c7, rfl, ho7, hx7⟩
  have hS7 := hS6.trans hx7
  refine hK.out _ _ hS7 (fun _ => ?_)
  refine wpAnyH_take (i := 8) (oi := { dst := some 5, op := Go.Op.assign (Go.Operand.tmp 51), type := 23, pos := "ether.go:79", after := #[{ on := 7, ground := Go.Ground.data }, { on := 7, ground := Go.Ground.chain }, { on := 0, ground := Go.Ground.phase }, { on := 1, ground := Go.Ground.phase }, { on := 2, ground := Go.Ground.phase }, { on := 3, ground := Go.Ground.phase }, { on := 4, ground := Go.Ground.phase }, { on := 5, ground := Go.Ground.phase }, { on := 6, ground := Go.Ground.phase }, { on := 7, ground := Go.Ground.phase }], guard := none }) (v := ?v26) rfl (by kernel_rfl) (by kernel_rfl) (by kernel_rfl) (fun _ _ _ h => h) (Or.inl ⟨by rfl, ?hy26⟩) (by assumption) ?rest26
  case hy26 => (intro w hSw; (try dsimp only at hSw); have c13 := hSw.cell c13 id; have c14 := hSw.cell c14 id; go_simp <;> with_reducible rfl)
  try simp only [Act.put, List.setIfInBounds_toArray, List.set_cons_zero, List.set_cons_succ]
  refine wpAnyH_done (by kernel_rfl) ?_ _
  have hw6s := hS6.size
  have HO7 := Lib.hid (ho7.mono (show w.heap.size ≤ w6.heap.size by omega))
  have HX7 := Lib.hid (HA1.out.trans hS7)
  clear ho7
  have hfm : fbytes (⟨[d0, d1, d2, d3, d4, d5], [s0, s1, s2, s3, s4, s5], vl, ty, b⟩ : Fr) = M := by
    have hne : vl ≠ -1 := by omega
    rw [HM.out, HL.out]; simp [fbytes, hne]
  have HFM := Lib.hid hfm
  clear hfm
  by_cases hbg : 9000 < M.length
  · go_wp2_with fail
    refine (ewrong_any (fun _ => False) [] 7 _ w7 rfl).mono ?_
    rintro e w8 ⟨v8, rfl, he8, hx8⟩
    have HX8 := Lib.hid (HX7.out.trans hx8)
    have HE8 := Lib.hid he8
    have hw7s := HX7.out.size
    clear hx8 he8
    go_wp2_with fail
    go_ret2
    rw [HFM.out]
    exact ⟨HX8.out, .inl ⟨hbg, v8, rfl, EC.mono (fun j hj => by rcases hj with h | h; exact h.elim; omega) HE8.out⟩⟩
  · go_wp2_with fail
    go_ret2
    rw [HFM.out]
    exact ⟨HX7.out, .inr ⟨by omega, A7, c7, rfl, HO7.out⟩⟩

end Go.Proofs.YtkgieciamophkaaDoor
