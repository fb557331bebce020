/-
  The contract of ipv4.Parse. By an AI agent.
-/
import Derived.Test.YtfcfpkhcpijkfaaDoorIpH
import Derived.Test.YtfcfpkhcpijkfaaDoorRow2
namespace Go.Proofs.YtfcfpkhcpijkfaaDoor
open Go.RowKit

theorem and_8191 (x : Int) (h0 : 0 ≤ x) (h1 : x ≤ 65535) : Go.bits .and .u16 x 8191 = x % 8192 := by
  have key : (BitVec.ofInt 16 x &&& BitVec.ofInt 16 8191).toNat = x.toNat % 8192 := by
    rw [BitVec.toNat_and, BitVec.toNat_ofInt, BitVec.toNat_ofInt, show (x % ((2 ^ 16 : Nat) : Int)).toNat = x.toNat by omega, show ((8191 : Int) % ((2 ^ 16 : Nat) : Int)).toNat = 2 ^ 13 - 1 by decide, Nat.and_two_pow_sub_one_eq_mod]
  show IntKind.u16.wrap ((BitVec.ofInt 16 x &&& BitVec.ofInt 16 8191).toNat : Nat) = _
  rw [key, IntKind.wrap_u16]
  omega
theorem and2_all : ∀ n : Fin 8, (Go.bits .and .u16 (n.val : Int) 2 != 0) = decide ((n.val / 2) % 2 = 1) := by decide +kernel
theorem and1_all : ∀ n : Fin 8, (Go.bits .and .u16 (n.val : Int) 1 != 0) = decide (n.val % 2 = 1) := by decide +kernel
theorem and2_bit (x : Int) (h0 : 0 ≤ x) (h1 : x ≤ 65535) : ∃ D : Int, Go.bits .and .u16 (x / 8192) 2 = D ∧ (D != 0) = decide (x / 16384 % 2 = 1) := by
  have := and2_all ⟨(x / 8192).toNat, by omega⟩
  rw [show (((⟨(x / 8192).toNat, by omega⟩ : Fin 8).val : Nat) : Int) = x / 8192 by simp only; omega] at this
  refine ⟨_, rfl, this.trans ?_⟩
  by_cases h : x / 16384 % 2 = 1
  · rw [decide_eq_true h, decide_eq_true (by simp only; omega)]
  · rw [decide_eq_false h, decide_eq_false (by simp only; omega)]
theorem and1_bit (x : Int) (h0 : 0 ≤ x) (h1 : x ≤ 65535) : ∃ D : Int, Go.bits .and .u16 (x / 8192) 1 = D ∧ (D != 0) = decide (x / 8192 % 2 = 1) := by
  have := and1_all ⟨(x / 8192).toNat, by omega⟩
  rw [show (((⟨(x / 8192).toNat, by omega⟩ : Fin 8).val : Nat) : Int) = x / 8192 by simp only; omega] at this
  refine ⟨_, rfl, this.trans ?_⟩
  by_cases h : x / 8192 % 2 = 1
  · rw [decide_eq_true h, decide_eq_true (by simp only; omega)]
  · rw [decide_eq_false h, decide_eq_false (by simp only; omega)]
theorem Hd.of_take {l : List UInt8} (h : 20 ≤ l.length) : Hd.of (l.take 20) = Hd.of l := by
  obtain ⟨x0, x1, x2, x3, x4, x5, x6, x7, x8, x9, x10, x11, x12, x13, x14, x15, x16, x17, x18, x19, r, rfl⟩ := twenty h
  rfl
/-- the packet that is handed back with an error -/
def zpk : Pk := ⟨0, 0, false, false, 0, 0, 0, 0, 0, []⟩
theorem pk_size : (Tryd.prog.info? 51).map (·.size) = some 10 := by kernel_rfl
set_option maxRecDepth 100000 in
set_option maxHeartbeats 4000000 in
theorem ipparse_1 (P : Nat → Prop) (A : Option Addr) (n c : Nat) (l : List UInt8) (w : World) (hr : RB w P (.slice A n c) l) (hA : A = none → c = 0) (hl : l.length ≤ 1000000000) (h20 : l.length < 20) :
    Calls Tryd.prog 24 #[.slice A n c] w fun e w' => Ex (fun _ => False) w w' ∧ ∃ v, e = .returned (.tuple #[pkv zpk (.slice none 0 0), v]) ∧ EC w' (fun j => w.heap.size ≤ j) [lay5, lay1] v 2 := by
  obtain rfl : n = l.length := by obtain ⟨_, _, _, e, _⟩ := hr; injection e
  have HR := Lib.hid hr
  have HA := Lib.hid hA
  clear hr hA
  go_enter Tryd.func24, Tryd.ntmps24
  go_upto_region 1 with fail
  have hx : Ex (fun _ => False) w (w.alloc (.cells #[.int .u8 0, .int .u16 0, .bool false, .bool false, .int .i64 0, .int .u8 0, .int .u8 0, .int .u32 0, .int .u32 0, .slice none 0 0] 51)) := (Ex.refl _ w).alloc _
  have hb : (w.alloc (.cells #[.int .u8 0, .int .u16 0, .bool false, .bool false, .int .i64 0, .int .u8 0, .int .u8 0, .int .u32 0, .int .u32 0, .slice none 0 0] 51)).heap[w.heap.size]? = some (.cells #[.int .u8 0, .int .u16 0, .bool false, .bool false, .int .i64 0, .int .u8 0, .int .u8 0, .int .u32 0, .int .u32 0, .slice none 0 0] 51) := heap_alloc_new w _
  obtain ⟨rb, hrb⟩ : ∃ rb, rb = w.heap.size := ⟨_, rfl⟩
  have hb_rb : w.heap.size ≤ rb := by omega
  rw [← hrb] at hb
  try simp only [← hrb]
  generalize w.alloc (.cells #[.int .u8 0, .int .u16 0, .bool false, .bool false, .int .i64 0, .int .u8 0, .int .u8 0, .int .u32 0, .int .u32 0, .slice none 0 0] 51) = w1 at hx hb ⊢
  clear hrb
  have HX_w1 := Lib.hid hx
  clear hx
  have B_rb := Lib.hid hb
  clear hb
  have hrbl := row_lt B_rb.out
  go_wp2_with fail
  refine (read_anyF P A l.length c l w1 (RB.keep HR.out HX_w1.out (fun _ _ _ => id)) HA.out hl).mono ?_
  rintro e w2 ⟨p1, g1, rfl, hr2, hb_p1, hb_g1, hx, hz2⟩
  have HX_w2 := Lib.hid hx
  clear hx
  have HR2 := Lib.hid hr2
  clear hr2
  have hrb := row_lt B_rb.out
  have ne_rb_p1 : rb ≠ p1 := by omega
  have ne_rb_g1 : rb ≠ g1 := by omega
  have ne_g1_p1 := HR2.out.apart
  clear hrb
  clear hz2
  go_wp2_with fail
  refine (rbytes_few p1 g1 0 l 20 w2 HR2.out (by omega)).mono ?_
  rintro e w3 ⟨v3, rfl, he, hx⟩
  obtain ⟨ty3, y3, hv3⟩ := he.shape
  have HX_w3 := Lib.hid hx
  clear hx
  have HE3 := Lib.hid he
  clear he
  subst hv3
  go_wp2_with fail
  refine (wrong5_any _ [lay1] 2 _ w3 HE3.out).mono ?_
  rintro e w4 ⟨v4, rfl, he, hx⟩
  have HX_w4 := Lib.hid hx
  clear hx
  have hz02 := (HX_w1.out.trans HX_w2.out).size
  have hz23 := HX_w3.out.size
  have hz12 := HX_w2.out.size
  have he := EC.upO (B' := w1.heap.size) he (by omega) (by omega)
  have HE4 := Lib.hid he
  clear he
  replace B_rb := Lib.hid ((((HX_w2.out.trans HX_w3.out).trans HX_w4.out).block rb (row_lt B_rb.out) id).trans B_rb.out)
  have crb0 := row_cell (k := 0) (v := .int .u8 0) B_rb.out rfl
  have crb1 := row_cell (k := 1) (v := .int .u16 0) B_rb.out rfl
  have crb2 := row_cell (k := 2) (v := .bool false) B_rb.out rfl
  have crb3 := row_cell (k := 3) (v := .bool false) B_rb.out rfl
  have crb4 := row_cell (k := 4) (v := .int .i64 0) B_rb.out rfl
  have crb5 := row_cell (k := 5) (v := .int .u8 0) B_rb.out rfl
  have crb6 := row_cell (k := 6) (v := .int .u8 0) B_rb.out rfl
  have crb7 := row_cell (k := 7) (v := .int .u32 0) B_rb.out rfl
  have crb8 := row_cell (k := 8) (v := .int .u32 0) B_rb.out rfl
  have crb9 := row_cell (k := 9) (v := .slice none 0 0) B_rb.out rfl
  have frb0 := row_frozen B_rb.out 0
  have frb1 := row_frozen B_rb.out 1
  have frb2 := row_frozen B_rb.out 2
  have frb3 := row_frozen B_rb.out 3
  have frb4 := row_frozen B_rb.out 4
  have frb5 := row_frozen B_rb.out 5
  have frb6 := row_frozen B_rb.out 6
  have frb7 := row_frozen B_rb.out 7
  have frb8 := row_frozen B_rb.out 8
  have frb9 := row_frozen B_rb.out 9
  go_wp2_with fail
  (try simp only [Exit.inBlock, Exit.then])
  have r0 : (w4.setCell ⟨rb, 0, none⟩ (.int .u8 0)).heap[rb]? = some (.cells #[.int .u8 0, .int .u16 0, .bool false, .bool false, .int .i64 0, .int .u8 0, .int .u8 0, .int .u32 0, .int .u32 0, .slice none 0 0] 51) := row_set B_rb.out 0 (.int .u8 0)
  have r1 : ((w4.setCell ⟨rb, 0, none⟩ (.int .u8 0)).setCell ⟨rb, 1, none⟩ (.int .u16 0)).heap[rb]? = some (.cells #[.int .u8 0, .int .u16 0, .bool false, .bool false, .int .i64 0, .int .u8 0, .int .u8 0, .int .u32 0, .int .u32 0, .slice none 0 0] 51) := row_set r0 1 (.int .u16 0)
  clear r0
  have r2 : (((w4.setCell ⟨rb, 0, none⟩ (.int .u8 0)).setCell ⟨rb, 1, none⟩ (.int .u16 0)).setCell ⟨rb, 2, none⟩ (.bool false)).heap[rb]? = some (.cells #[.int .u8 0, .int .u16 0, .bool false, .bool false, .int .i64 0, .int .u8 0, .int .u8 0, .int .u32 0, .int .u32 0, .slice none 0 0] 51) := row_set r1 2 (.bool false)
  clear r1
  have r3 : ((((w4.setCell ⟨rb, 0, none⟩ (.int .u8 0)).setCell ⟨rb, 1, none⟩ (.int .u16 0)).setCell ⟨rb, 2, none⟩ (.bool false)).setCell ⟨rb, 3, none⟩ (.bool false)).heap[rb]? = some (.cells #[.int .u8 0, .int .u16 0, .bool false, .bool false, .int .i64 0, .int .u8 0, .int .u8 0, .int .u32 0, .int .u32 0, .slice none 0 0] 51) := row_set r2 3 (.bool false)
  clear r2
  have r4 : (((((w4.setCell ⟨rb, 0, none⟩ (.int .u8 0)).setCell ⟨rb, 1, none⟩ (.int .u16 0)).setCell ⟨rb, 2, none⟩ (.bool false)).setCell ⟨rb, 3, none⟩ (.bool false)).setCell ⟨rb, 4, none⟩ (.int .i64 0)).heap[rb]? = some (.cells #[.int .u8 0, .int .u16 0, .bool false, .bool false, .int .i64 0, .int .u8 0, .int .u8 0, .int .u32 0, .int .u32 0, .slice none 0 0] 51) := row_set r3 4 (.int .i64 0)
  clear r3
  have r5 : ((((((w4.setCell ⟨rb, 0, none⟩ (.int .u8 0)).setCell ⟨rb, 1, none⟩ (.int .u16 0)).setCell ⟨rb, 2, none⟩ (.bool false)).setCell ⟨rb, 3, none⟩ (.bool false)).setCell ⟨rb, 4, none⟩ (.int .i64 0)).setCell ⟨rb, 5, none⟩ (.int .u8 0)).heap[rb]? = some (.cells #[.int .u8 0, .int .u16 0, .bool false, .bool false, .int .i64 0, .int .u8 0, .int .u8 0, .int .u32 0, .int .u32 0, .slice none 0 0] 51) := row_set r4 5 (.int .u8 0)
  clear r4
  have r6 : (((((((w4.setCell ⟨rb, 0, none⟩ (.int .u8 0)).setCell ⟨rb, 1, none⟩ (.int .u16 0)).setCell ⟨rb, 2, none⟩ (.bool false)).setCell ⟨rb, 3, none⟩ (.bool false)).setCell ⟨rb, 4, none⟩ (.int .i64 0)).setCell ⟨rb, 5, none⟩ (.int .u8 0)).setCell ⟨rb, 6, none⟩ (.int .u8 0)).heap[rb]? = some (.cells #[.int .u8 0, .int .u16 0, .bool false, .bool false, .int .i64 0, .int .u8 0, .int .u8 0, .int .u32 0, .int .u32 0, .slice none 0 0] 51) := row_set r5 6 (.int .u8 0)
  clear r5
  have r7 : ((((((((w4.setCell ⟨rb, 0, none⟩ (.int .u8 0)).setCell ⟨rb, 1, none⟩ (.int .u16 0)).setCell ⟨rb, 2, none⟩ (.bool false)).setCell ⟨rb, 3, none⟩ (.bool false)).setCell ⟨rb, 4, none⟩ (.int .i64 0)).setCell ⟨rb, 5, none⟩ (.int .u8 0)).setCell ⟨rb, 6, none⟩ (.int .u8 0)).setCell ⟨rb, 7, none⟩ (.int .u32 0)).heap[rb]? = some (.cells #[.int .u8 0, .int .u16 0, .bool false, .bool false, .int .i64 0, .int .u8 0, .int .u8 0, .int .u32 0, .int .u32 0, .slice none 0 0] 51) := row_set r6 7 (.int .u32 0)
  clear r6
  have r8 : (((((((((w4.setCell ⟨rb, 0, none⟩ (.int .u8 0)).setCell ⟨rb, 1, none⟩ (.int .u16 0)).setCell ⟨rb, 2, none⟩ (.bool false)).setCell ⟨rb, 3, none⟩ (.bool false)).setCell ⟨rb, 4, none⟩ (.int .i64 0)).setCell ⟨rb, 5, none⟩ (.int .u8 0)).setCell ⟨rb, 6, none⟩ (.int .u8 0)).setCell ⟨rb, 7, none⟩ (.int .u32 0)).setCell ⟨rb, 8, none⟩ (.int .u32 0)).heap[rb]? = some (.cells #[.int .u8 0, .int .u16 0, .bool false, .bool false, .int .i64 0, .int .u8 0, .int .u8 0, .int .u32 0, .int .u32 0, .slice none 0 0] 51) := row_set r7 8 (.int .u32 0)
  clear r7
  have r9 : ((((((((((w4.setCell ⟨rb, 0, none⟩ (.int .u8 0)).setCell ⟨rb, 1, none⟩ (.int .u16 0)).setCell ⟨rb, 2, none⟩ (.bool false)).setCell ⟨rb, 3, none⟩ (.bool false)).setCell ⟨rb, 4, none⟩ (.int .i64 0)).setCell ⟨rb, 5, none⟩ (.int .u8 0)).setCell ⟨rb, 6, none⟩ (.int .u8 0)).setCell ⟨rb, 7, none⟩ (.int .u32 0)).setCell ⟨rb, 8, none⟩ (.int .u32 0)).setCell ⟨rb, 9, none⟩ (.slice none 0 0)).heap[rb]? = some (.cells #[.int .u8 0, .int .u16 0, .bool false, .bool false, .int .i64 0, .int .u8 0, .int .u8 0, .int .u32 0, .int .u32 0, .slice none 0 0] 51) := row_set r8 9 (.slice none 0 0)
  clear r8
  have hx : Ex (fun j => j = rb) w4 ((((((((((w4.setCell ⟨rb, 0, none⟩ (.int .u8 0)).setCell ⟨rb, 1, none⟩ (.int .u16 0)).setCell ⟨rb, 2, none⟩ (.bool false)).setCell ⟨rb, 3, none⟩ (.bool false)).setCell ⟨rb, 4, none⟩ (.int .i64 0)).setCell ⟨rb, 5, none⟩ (.int .u8 0)).setCell ⟨rb, 6, none⟩ (.int .u8 0)).setCell ⟨rb, 7, none⟩ (.int .u32 0)).setCell ⟨rb, 8, none⟩ (.int .u32 0)).setCell ⟨rb, 9, none⟩ (.slice none 0 0)) := (((((((((((Ex.refl (fun j => j = rb) w4).setCell (p := ⟨rb, 0, none⟩) (.inl rfl) (.int .u8 0)).setCell (p := ⟨rb, 1, none⟩) (.inl rfl) (.int .u16 0)).setCell (p := ⟨rb, 2, none⟩) (.inl rfl) (.bool false)).setCell (p := ⟨rb, 3, none⟩) (.inl rfl) (.bool false)).setCell (p := ⟨rb, 4, none⟩) (.inl rfl) (.int .i64 0)).setCell (p := ⟨rb, 5, none⟩) (.inl rfl) (.int .u8 0)).setCell (p := ⟨rb, 6, none⟩) (.inl rfl) (.int .u8 0)).setCell (p := ⟨rb, 7, none⟩) (.inl rfl) (.int .u32 0)).setCell (p := ⟨rb, 8, none⟩) (.inl rfl) (.int .u32 0)).setCell (p := ⟨rb, 9, none⟩) (.inl rfl) (.slice none 0 0))
  clear crb0 crb1 crb2 crb3 crb4 crb5 crb6 crb7 crb8 crb9 frb0 frb1 frb2 frb3 frb4 frb5 frb6 frb7 frb8 frb9
  generalize ((((((((((w4.setCell ⟨rb, 0, none⟩ (.int .u8 0)).setCell ⟨rb, 1, none⟩ (.int .u16 0)).setCell ⟨rb, 2, none⟩ (.bool false)).setCell ⟨rb, 3, none⟩ (.bool false)).setCell ⟨rb, 4, none⟩ (.int .i64 0)).setCell ⟨rb, 5, none⟩ (.int .u8 0)).setCell ⟨rb, 6, none⟩ (.int .u8 0)).setCell ⟨rb, 7, none⟩ (.int .u32 0)).setCell ⟨rb, 8, none⟩ (.int .u32 0)).setCell ⟨rb, 9, none⟩ (.slice none 0 0)) = wz at r9 hx ⊢
  have HROW := Lib.hid r9
  clear r9
  have HX_wz := Lib.hid hx
  clear hx
  refine bodyPost_ret (v := .tuple #[.agg #[.int .u8 0, .int .u16 0, .bool false, .bool false, .int .i64 0, .int .u8 0, .int .u8 0, .int .u32 0, .int .u32 0, .slice none 0 0], v4]) ?_ rfl ⟨((((HX_w1.out.trans HX_w2.out).trans HX_w3.out).trans HX_w4.out).andThen HX_wz.out (fun i hi e => by have := hb_rb; omega)), v4, rfl, EC.up (EC.keepB HX_wz.out (by omega) HE4.out) (by omega)⟩
  exact results_cell_row2 (p := 2) (u := 3) rfl _ _ rb 51 #[.int .u8 0, .int .u16 0, .bool false, .bool false, .int .i64 0, .int .u8 0, .int .u8 0, .int .u32 0, .int .u32 0, .slice none 0 0] (0, 0) _ _ rfl rfl HROW.out Tryd.underlying51 rfl pk_size
set_option maxRecDepth 100000 in
set_option maxHeartbeats 4000000 in
theorem ipparse_2 (P : Nat → Prop) (A : Option Addr) (n c : Nat) (l : List UInt8) (w : World) (hr : RB w P (.slice A n c) l) (hA : A = none → c = 0) (hl : l.length ≤ 1000000000) (h20 : 20 ≤ l.length) (hchk : (Hd.of l).chk (su (l.take 20)) l.length ≠ 0) :
    Calls Tryd.prog 24 #[.slice A n c] w fun e w' => Ex (fun _ => False) w w' ∧ ∃ v, e = .returned (.tuple #[pkv zpk (.slice none 0 0), v]) ∧ EC w' (fun j => w.heap.size ≤ j) [lay5] v ((Hd.of l).chk (su (l.take 20)) l.length) := by
  obtain rfl : n = l.length := by obtain ⟨_, _, _, e, _⟩ := hr; injection e
  obtain ⟨H, hH⟩ : ∃ H, Hd.of l = H := ⟨_, rfl⟩
  have hok := Hd.of_ok l
  have hof := Hd.of_take h20
  rw [hH] at hok hof hchk
  have HH := Lib.hid hH
  obtain ⟨vi, tos, size, ident, bits, ttl, pr, sum, src, dst⟩ := H
  have HOK := Lib.hid hok
  have HOF := Lib.hid hof
  have HCHK := Lib.hid hchk
  clear hof hchk hH
  rw [HH.out]
  have HR := Lib.hid hr
  have HA := Lib.hid hA
  clear hr hA
  go_enter Tryd.func24, Tryd.ntmps24
  go_upto_region 1 with fail
  have hx : Ex (fun _ => False) w (w.alloc (.cells #[.int .u8 0, .int .u16 0, .bool false, .bool false, .int .i64 0, .int .u8 0, .int .u8 0, .int .u32 0, .int .u32 0, .slice none 0 0] 51)) := (Ex.refl _ w).alloc _
  have hb : (w.alloc (.cells #[.int .u8 0, .int .u16 0, .bool false, .bool false, .int .i64 0, .int .u8 0, .int .u8 0, .int .u32 0, .int .u32 0, .slice none 0 0] 51)).heap[w.heap.size]? = some (.cells #[.int .u8 0, .int .u16 0, .bool false, .bool false, .int .i64 0, .int .u8 0, .int .u8 0, .int .u32 0, .int .u32 0, .slice none 0 0] 51) := heap_alloc_new w _
  obtain ⟨rb, hrb⟩ : ∃ rb, rb = w.heap.size := ⟨_, rfl⟩
  have hb_rb : w.heap.size ≤ rb := by omega
  rw [← hrb] at hb
  try simp only [← hrb]
  generalize w.alloc (.cells #[.int .u8 0, .int .u16 0, .bool false, .bool false, .int .i64 0, .int .u8 0, .int .u8 0, .int .u32 0, .int .u32 0, .slice none 0 0] 51) = w1 at hx hb ⊢
  clear hrb
  have HX_w1 := Lib.hid hx
  clear hx
  have B_rb := Lib.hid hb
  clear hb
  have hrbl := row_lt B_rb.out
  go_wp2_with fail
  refine (read_anyF P A l.length c l w1 (RB.keep HR.out HX_w1.out (fun _ _ _ => id)) HA.out hl).mono ?_
  rintro e w2 ⟨p1, g1, rfl, hr2, hb_p1, hb_g1, hx, hz2⟩
  have HX_w2 := Lib.hid hx
  clear hx
  have HR2 := Lib.hid hr2
  clear hr2
  have hrb := row_lt B_rb.out
  have ne_rb_p1 : rb ≠ p1 := by omega
  have ne_rb_g1 : rb ≠ g1 := by omega
  have ne_g1_p1 := HR2.out.apart
  clear hrb
  have HG1 : Hid (g1 < w2.heap.size) := Lib.hid (HR2.out.ltg (by omega))
  go_wp2_with fail
  refine (rbytes_any p1 g1 0 l 20 w2 HR2.out h20).mono ?_
  rintro e w3 ⟨u3, rfl, A3, rfl, hA3, hb3, hr3, hx⟩
  obtain rfl : A3 = some ⟨g1, 0, none⟩ := hA3.resolve_left (by intro h; subst h; simp at h20)
  have h20' : (l.take 20).length = 20 := by rw [List.length_take]; omega
  have HT20 := Lib.hid h20'
  clear h20' hA3
  have HX_w3 := Lib.hid hx
  clear hx
  have HB3 := Lib.hid hb3
  have HR3 := Lib.hid hr3
  clear hb3 hr3 HR2
  have HFZ := Lib.hid (hz2 (by omega))
  clear hz2
  go_wp2_with fail
  refine (read_anyF _ (some ⟨g1, 0, none⟩) 20 20 (l.take 20) w3 HB3.out (fun h => by cases h) (by rw [HT20.out]; omega)).mono ?_
  rintro e w4 ⟨p2, g2, rfl, hr4, hb_p2, hb_g2, hx, _⟩
  have hp1 := HR3.out.lt
  have hg1 : g1 < w3.heap.size := Nat.lt_of_lt_of_le (HG1.out) HX_w3.out.size
  have hrb := row_lt (((HX_w2.out.andThen HX_w3.out (fun i hi e => by have := hb_p1; omega)).block rb (row_lt B_rb.out) id).trans B_rb.out)
  have ne_p1_p2 : p1 ≠ p2 := by omega
  have ne_g1_p2 : g1 ≠ p2 := by omega
  have ne_rb_p2 : rb ≠ p2 := by omega
  have ne_p1_g2 : p1 ≠ g2 := by omega
  have ne_rb_g2 : rb ≠ g2 := by omega
  clear hp1 hg1 hrb
  have HX_w4 := Lib.hid hx
  clear hx
  have HR4 := Lib.hid hr4
  clear hr4
  go_wp2_with fail
  refine (hread_any p2 g2 0 (l.take 20) w4 HR4.out (by rw [HT20.out]; omega)).mono ?_
  rintro e w5 ⟨rfl, hx⟩
  rw [HOF.out]
  have hv : hdv (⟨vi, tos, size, ident, bits, ttl, pr, sum, src, dst⟩ : Hd) = .agg #[.int .u8 vi, .int .u8 tos, .int .u16 size, .int .u16 ident, .int .u16 bits, .int .u8 ttl, .int .u8 pr, .int .u16 sum, .int .u32 src, .int .u32 dst] := rfl
  rw [hv]
  clear hv
  have HX_w5 := Lib.hid hx
  clear hx
  go_upto_region 6 with fail
  have hx : Ex (fun _ => False) w5 (w5.alloc (.cells #[.int .u8 vi, .int .u8 tos, .int .u16 size, .int .u16 ident, .int .u16 bits, .int .u8 ttl, .int .u8 pr, .int .u16 sum, .int .u32 src, .int .u32 dst] 97)) := (Ex.refl _ w5).alloc _
  have hb : (w5.alloc (.cells #[.int .u8 vi, .int .u8 tos, .int .u16 size, .int .u16 ident, .int .u16 bits, .int .u8 ttl, .int .u8 pr, .int .u16 sum, .int .u32 src, .int .u32 dst] 97)).heap[w5.heap.size]? = some (.cells #[.int .u8 vi, .int .u8 tos, .int .u16 size, .int .u16 ident, .int .u16 bits, .int .u8 ttl, .int .u8 pr, .int .u16 sum, .int .u32 src, .int .u32 dst] 97) := heap_alloc_new w5 _
  obtain ⟨qh, hqh⟩ : ∃ qh, qh = w5.heap.size := ⟨_, rfl⟩
  have hb_qh : w5.heap.size ≤ qh := by omega
  rw [← hqh] at hb
  try simp only [← hqh]
  generalize w5.alloc (.cells #[.int .u8 vi, .int .u8 tos, .int .u16 size, .int .u16 ident, .int .u16 bits, .int .u8 ttl, .int .u8 pr, .int .u16 sum, .int .u32 src, .int .u32 dst] 97) = w6 at hx hb ⊢
  clear hqh
  have HX_w6 := Lib.hid hx
  clear hx
  have B_qh := Lib.hid hb
  clear hb
  have cqh0 := row_cell (k := 0) (v := .int .u8 vi) B_qh.out rfl
  have cqh1 := row_cell (k := 1) (v := .int .u8 tos) B_qh.out rfl
  have cqh2 := row_cell (k := 2) (v := .int .u16 size) B_qh.out rfl
  have cqh3 := row_cell (k := 3) (v := .int .u16 ident) B_qh.out rfl
  have cqh4 := row_cell (k := 4) (v := .int .u16 bits) B_qh.out rfl
  have cqh5 := row_cell (k := 5) (v := .int .u8 ttl) B_qh.out rfl
  have cqh6 := row_cell (k := 6) (v := .int .u8 pr) B_qh.out rfl
  have cqh7 := row_cell (k := 7) (v := .int .u16 sum) B_qh.out rfl
  have cqh8 := row_cell (k := 8) (v := .int .u32 src) B_qh.out rfl
  have cqh9 := row_cell (k := 9) (v := .int .u32 dst) B_qh.out rfl
  have hrb3 := (RB.keep HB3.out ((HX_w4.out.andThen HX_w5.out (fun i hi e => by have := hb_p2; omega)).trans HX_w6.out) (fun _ _ _ => id))
  have HC3 := Lib.hid hrb3
  clear hrb3
  go_wp2_with fail
  refine (check_any _ ⟨vi, tos, size, ident, bits, ttl, pr, sum, src, dst⟩ HOK.out _ _ _ (l.take 20) l.length w6 HC3.out (by rw [HT20.out]; omega)).mono ?_
  rintro e w7 ⟨hx, hcase⟩
  clear HC3
  have HX_w7 := Lib.hid hx
  clear hx
  obtain rfl : e = .returned (.iface 44 (.int .i64 ((⟨vi, tos, size, ident, bits, ttl, pr, sum, src, dst⟩ : Hd).chk (su (l.take 20)) l.length : Int))) := by
    rcases hcase with ⟨h, _⟩ | ⟨_, h⟩
    · exact absurd h HCHK.out
    · exact h
  clear hcase cqh0 cqh1 cqh2 cqh3 cqh4 cqh5 cqh6 cqh7 cqh8 cqh9
  go_wp2_with fail
  refine (wrong5_no _ w7).mono ?_
  rintro e w8 ⟨v8, rfl, he, hx⟩
  have HX_w8 := Lib.hid hx
  clear hx
  have HE8 := Lib.hid he
  clear he
  have hz07 := ((((((HX_w1.out.trans HX_w2.out).andThen HX_w3.out (fun i hi e => by have := HX_w1.out.size; have := hb_p1; omega)).trans HX_w4.out).andThen HX_w5.out (fun i hi e => by have := ((HX_w1.out.trans HX_w2.out).andThen HX_w3.out (fun i hi e => by have := HX_w1.out.size; have := hb_p1; omega)).size; have := hb_p2; omega)).trans HX_w6.out).trans HX_w7.out).size
  have hrb7 := row_lt B_rb.out
  have hz17 := (((((HX_w2.out.andThen HX_w3.out (fun i hi e => by have := hb_p1; omega)).trans HX_w4.out).andThen HX_w5.out (fun i hi e => by have := (HX_w2.out.andThen HX_w3.out (fun i hi e => by have := hb_p1; omega)).size; have := hb_p2; omega)).trans HX_w6.out).trans HX_w7.out).size
  replace B_rb := Lib.hid ((((((((HX_w2.out.andThen HX_w3.out (fun i hi e => by have := hb_p1; omega)).trans HX_w4.out).andThen HX_w5.out (fun i hi e => by have := (HX_w2.out.andThen HX_w3.out (fun i hi e => by have := hb_p1; omega)).size; have := hb_p2; omega)).trans HX_w6.out).trans HX_w7.out).trans HX_w8.out).block rb (row_lt B_rb.out) id).trans B_rb.out)
  have crb0 := row_cell (k := 0) (v := .int .u8 0) B_rb.out rfl
  have crb1 := row_cell (k := 1) (v := .int .u16 0) B_rb.out rfl
  have crb2 := row_cell (k := 2) (v := .bool false) B_rb.out rfl
  have crb3 := row_cell (k := 3) (v := .bool false) B_rb.out rfl
  have crb4 := row_cell (k := 4) (v := .int .i64 0) B_rb.out rfl
  have crb5 := row_cell (k := 5) (v := .int .u8 0) B_rb.out rfl
  have crb6 := row_cell (k := 6) (v := .int .u8 0) B_rb.out rfl
  have crb7 := row_cell (k := 7) (v := .int .u32 0) B_rb.out rfl
  have crb8 := row_cell (k := 8) (v := .int .u32 0) B_rb.out rfl
  have crb9 := row_cell (k := 9) (v := .slice none 0 0) B_rb.out rfl
  have frb0 := row_frozen B_rb.out 0
  have frb1 := row_frozen B_rb.out 1
  have frb2 := row_frozen B_rb.out 2
  have frb3 := row_frozen B_rb.out 3
  have frb4 := row_frozen B_rb.out 4
  have frb5 := row_frozen B_rb.out 5
  have frb6 := row_frozen B_rb.out 6
  have frb7 := row_frozen B_rb.out 7
  have frb8 := row_frozen B_rb.out 8
  have frb9 := row_frozen B_rb.out 9
  go_wp2_with fail
  (try simp only [Exit.inBlock, Exit.then])
  have r0 : (w8.setCell ⟨rb, 0, none⟩ (.int .u8 0)).heap[rb]? = some (.cells #[.int .u8 0, .int .u16 0, .bool false, .bool false, .int .i64 0, .int .u8 0, .int .u8 0, .int .u32 0, .int .u32 0, .slice none 0 0] 51) := row_set B_rb.out 0 (.int .u8 0)
  have r1 : ((w8.setCell ⟨rb, 0, none⟩ (.int .u8 0)).setCell ⟨rb, 1, none⟩ (.int .u16 0)).heap[rb]? = some (.cells #[.int .u8 0, .int .u16 0, .bool false, .bool false, .int .i64 0, .int .u8 0, .int .u8 0, .int .u32 0, .int .u32 0, .slice none 0 0] 51) := row_set r0 1 (.int .u16 0)
  clear r0
  have r2 : (((w8.setCell ⟨rb, 0, none⟩ (.int .u8 0)).setCell ⟨rb, 1, none⟩ (.int .u16 0)).setCell ⟨rb, 2, none⟩ (.bool false)).heap[rb]? = some (.cells #[.int .u8 0, .int .u16 0, .bool false, .bool false, .int .i64 0, .int .u8 0, .int .u8 0, .int .u32 0, .int .u32 0, .slice none 0 0] 51) := row_set r1 2 (.bool false)
  clear r1
  have r3 : ((((w8.setCell ⟨rb, 0, none⟩ (.int .u8 0)).setCell ⟨rb, 1, none⟩ (.int .u16 0)).setCell ⟨rb, 2, none⟩ (.bool false)).setCell ⟨rb, 3, none⟩ (.bool false)).heap[rb]? = some (.cells #[.int .u8 0, .int .u16 0, .bool false, .bool false, .int .i64 0, .int .u8 0, .int .u8 0, .int .u32 0, .int .u32 0, .slice none 0 0] 51) := row_set r2 3 (.bool false)
  clear r2
  have r4 : (((((w8.setCell ⟨rb, 0, none⟩ (.int .u8 0)).setCell ⟨rb, 1, none⟩ (.int .u16 0)).setCell ⟨rb, 2, none⟩ (.bool false)).setCell ⟨rb, 3, none⟩ (.bool false)).setCell ⟨rb, 4, none⟩ (.int .i64 0)).heap[rb]? = some (.cells #[.int .u8 0, .int .u16 0, .bool false, .bool false, .int .i64 0, .int .u8 0, .int .u8 0, .int .u32 0, .int .u32 0, .slice none 0 0] 51) := row_set r3 4 (.int .i64 0)
  clear r3
  have r5 : ((((((w8.setCell ⟨rb, 0, none⟩ (.int .u8 0)).setCell ⟨rb, 1, none⟩ (.int .u16 0)).setCell ⟨rb, 2, none⟩ (.bool false)).setCell ⟨rb, 3, none⟩ (.bool false)).setCell ⟨rb, 4, none⟩ (.int .i64 0)).setCell ⟨rb, 5, none⟩ (.int .u8 0)).heap[rb]? = some (.cells #[.int .u8 0, .int .u16 0, .bool false, .bool false, .int .i64 0, .int .u8 0, .int .u8 0, .int .u32 0, .int .u32 0, .slice none 0 0] 51) := row_set r4 5 (.int .u8 0)
  clear r4
  have r6 : (((((((w8.setCell ⟨rb, 0, none⟩ (.int .u8 0)).setCell ⟨rb, 1, none⟩ (.int .u16 0)).setCell ⟨rb, 2, none⟩ (.bool false)).setCell ⟨rb, 3, none⟩ (.bool false)).setCell ⟨rb, 4, none⟩ (.int .i64 0)).setCell ⟨rb, 5, none⟩ (.int .u8 0)).setCell ⟨rb, 6, none⟩ (.int .u8 0)).heap[rb]? = some (.cells #[.int .u8 0, .int .u16 0, .bool false, .bool false, .int .i64 0, .int .u8 0, .int .u8 0, .int .u32 0, .int .u32 0, .slice none 0 0] 51) := row_set r5 6 (.int .u8 0)
  clear r5
  have r7 : ((((((((w8.setCell ⟨rb, 0, none⟩ (.int .u8 0)).setCell ⟨rb, 1, none⟩ (.int .u16 0)).setCell ⟨rb, 2, none⟩ (.bool false)).setCell ⟨rb, 3, none⟩ (.bool false)).setCell ⟨rb, 4, none⟩ (.int .i64 0)).setCell ⟨rb, 5, none⟩ (.int .u8 0)).setCell ⟨rb, 6, none⟩ (.int .u8 0)).setCell ⟨rb, 7, none⟩ (.int .u32 0)).heap[rb]? = some (.cells #[.int .u8 0, .int .u16 0, .bool false, .bool false, .int .i64 0, .int .u8 0, .int .u8 0, .int .u32 0, .int .u32 0, .slice none 0 0] 51) := row_set r6 7 (.int .u32 0)
  clear r6
  have r8 : (((((((((w8.setCell ⟨rb, 0, none⟩ (.int .u8 0)).setCell ⟨rb, 1, none⟩ (.int .u16 0)).setCell ⟨rb, 2, none⟩ (.bool false)).setCell ⟨rb, 3, none⟩ (.bool false)).setCell ⟨rb, 4, none⟩ (.int .i64 0)).setCell ⟨rb, 5, none⟩ (.int .u8 0)).setCell ⟨rb, 6, none⟩ (.int .u8 0)).setCell ⟨rb, 7, none⟩ (.int .u32 0)).setCell ⟨rb, 8, none⟩ (.int .u32 0)).heap[rb]? = some (.cells #[.int .u8 0, .int .u16 0, .bool false, .bool false, .int .i64 0, .int .u8 0, .int .u8 0, .int .u32 0, .int .u32 0, .slice none 0 0] 51) := row_set r7 8 (.int .u32 0)
  clear r7
  have r9 : ((((((((((w8.setCell ⟨rb, 0, none⟩ (.int .u8 0)).setCell ⟨rb, 1, none⟩ (.int .u16 0)).setCell ⟨rb, 2, none⟩ (.bool false)).setCell ⟨rb, 3, none⟩ (.bool false)).setCell ⟨rb, 4, none⟩ (.int .i64 0)).setCell ⟨rb, 5, none⟩ (.int .u8 0)).setCell ⟨rb, 6, none⟩ (.int .u8 0)).setCell ⟨rb, 7, none⟩ (.int .u32 0)).setCell ⟨rb, 8, none⟩ (.int .u32 0)).setCell ⟨rb, 9, none⟩ (.slice none 0 0)).heap[rb]? = some (.cells #[.int .u8 0, .int .u16 0, .bool false, .bool false, .int .i64 0, .int .u8 0, .int .u8 0, .int .u32 0, .int .u32 0, .slice none 0 0] 51) := row_set r8 9 (.slice none 0 0)
  clear r8
  have hx : Ex (fun j => j = rb) w8 ((((((((((w8.setCell ⟨rb, 0, none⟩ (.int .u8 0)).setCell ⟨rb, 1, none⟩ (.int .u16 0)).setCell ⟨rb, 2, none⟩ (.bool false)).setCell ⟨rb, 3, none⟩ (.bool false)).setCell ⟨rb, 4, none⟩ (.int .i64 0)).setCell ⟨rb, 5, none⟩ (.int .u8 0)).setCell ⟨rb, 6, none⟩ (.int .u8 0)).setCell ⟨rb, 7, none⟩ (.int .u32 0)).setCell ⟨rb, 8, none⟩ (.int .u32 0)).setCell ⟨rb, 9, none⟩ (.slice none 0 0)) := (((((((((((Ex.refl (fun j => j = rb) w8).setCell (p := ⟨rb, 0, none⟩) (.inl rfl) (.int .u8 0)).setCell (p := ⟨rb, 1, none⟩) (.inl rfl) (.int .u16 0)).setCell (p := ⟨rb, 2, none⟩) (.inl rfl) (.bool false)).setCell (p := ⟨rb, 3, none⟩) (.inl rfl) (.bool false)).setCell (p := ⟨rb, 4, none⟩) (.inl rfl) (.int .i64 0)).setCell (p := ⟨rb, 5, none⟩) (.inl rfl) (.int .u8 0)).setCell (p := ⟨rb, 6, none⟩) (.inl rfl) (.int .u8 0)).setCell (p := ⟨rb, 7, none⟩) (.inl rfl) (.int .u32 0)).setCell (p := ⟨rb, 8, none⟩) (.inl rfl) (.int .u32 0)).setCell (p := ⟨rb, 9, none⟩) (.inl rfl) (.slice none 0 0))
  clear crb0 crb1 crb2 crb3 crb4 crb5 crb6 crb7 crb8 crb9 frb0 frb1 frb2 frb3 frb4 frb5 frb6 frb7 frb8 frb9
  generalize ((((((((((w8.setCell ⟨rb, 0, none⟩ (.int .u8 0)).setCell ⟨rb, 1, none⟩ (.int .u16 0)).setCell ⟨rb, 2, none⟩ (.bool false)).setCell ⟨rb, 3, none⟩ (.bool false)).setCell ⟨rb, 4, none⟩ (.int .i64 0)).setCell ⟨rb, 5, none⟩ (.int .u8 0)).setCell ⟨rb, 6, none⟩ (.int .u8 0)).setCell ⟨rb, 7, none⟩ (.int .u32 0)).setCell ⟨rb, 8, none⟩ (.int .u32 0)).setCell ⟨rb, 9, none⟩ (.slice none 0 0)) = wz at r9 hx ⊢
  have HROW := Lib.hid r9
  clear r9
  have HX_wz := Lib.hid hx
  clear hx
  refine bodyPost_ret (v := .tuple #[.agg #[.int .u8 0, .int .u16 0, .bool false, .bool false, .int .i64 0, .int .u8 0, .int .u8 0, .int .u32 0, .int .u32 0, .slice none 0 0], v8]) ?_ rfl ⟨((((((((HX_w1.out.trans HX_w2.out).andThen HX_w3.out (fun i hi e => by have := HX_w1.out.size; have := hb_p1; omega)).trans HX_w4.out).andThen HX_w5.out (fun i hi e => by have := ((HX_w1.out.trans HX_w2.out).andThen HX_w3.out (fun i hi e => by have := HX_w1.out.size; have := hb_p1; omega)).size; have := hb_p2; omega)).trans HX_w6.out).trans HX_w7.out).trans HX_w8.out).andThen HX_wz.out (fun i hi e => by have := hb_rb; omega)), v8, rfl, EC.up (EC.keepB HX_wz.out (by omega) HE8.out) (by omega)⟩
  exact results_cell_row2 (p := 2) (u := 3) rfl _ _ rb 51 #[.int .u8 0, .int .u16 0, .bool false, .bool false, .int .i64 0, .int .u8 0, .int .u8 0, .int .u32 0, .int .u32 0, .slice none 0 0] (0, 0) _ _ rfl rfl HROW.out Tryd.underlying51 rfl pk_size
set_option maxRecDepth 100000 in
set_option maxHeartbeats 4000000 in
theorem ipparse_3 (P : Nat → Prop) (A : Option Addr) (n c : Nat) (l : List UInt8) (w : World) (hr : RB w P (.slice A n c) l) (hA : A = none → c = 0) (hl : l.length ≤ 1000000000) (h20 : 20 ≤ l.length) (hchk : (Hd.of l).chk (su (l.take 20)) l.length = 0) (hright : (ppk l).right ≠ 0) :
    Calls Tryd.prog 24 #[.slice A n c] w fun e w' => Ex (fun _ => False) w w' ∧ ∃ v, e = .returned (.tuple #[pkv zpk (.slice none 0 0), v]) ∧ EC w' (fun j => w.heap.size ≤ j) [lay5] v 3 := by
  obtain rfl : n = l.length := by obtain ⟨_, _, _, e, _⟩ := hr; injection e
  obtain ⟨H, hH⟩ : ∃ H, Hd.of l = H := ⟨_, rfl⟩
  have hok := Hd.of_ok l
  have hof := Hd.of_take h20
  rw [hH] at hok hof hchk
  have HH := Lib.hid hH
  obtain ⟨vi, tos, size, ident, bits, ttl, pr, sum, src, dst⟩ := H
  have HOK := Lib.hid hok
  have HOF := Lib.hid hof
  have HCHK := Lib.hid hchk
  clear hof hchk hH
  have HRT := Lib.hid hright
  clear hright
  have HR := Lib.hid hr
  have HA := Lib.hid hA
  clear hr hA
  go_enter Tryd.func24, Tryd.ntmps24
  go_upto_region 1 with fail
  have hx : Ex (fun _ => False) w (w.alloc (.cells #[.int .u8 0, .int .u16 0, .bool false, .bool false, .int .i64 0, .int .u8 0, .int .u8 0, .int .u32 0, .int .u32 0, .slice none 0 0] 51)) := (Ex.refl _ w).alloc _
  have hb : (w.alloc (.cells #[.int .u8 0, .int .u16 0, .bool false, .bool false, .int .i64 0, .int .u8 0, .int .u8 0, .int .u32 0, .int .u32 0, .slice none 0 0] 51)).heap[w.heap.size]? = some (.cells #[.int .u8 0, .int .u16 0, .bool false, .bool false, .int .i64 0, .int .u8 0, .int .u8 0, .int .u32 0, .int .u32 0, .slice none 0 0] 51) := heap_alloc_new w _
  obtain ⟨rb, hrb⟩ : ∃ rb, rb = w.heap.size := ⟨_, rfl⟩
  have hb_rb : w.heap.size ≤ rb := by omega
  rw [← hrb] at hb
  try simp only [← hrb]
  generalize w.alloc (.cells #[.int .u8 0, .int .u16 0, .bool false, .bool false, .int .i64 0, .int .u8 0, .int .u8 0, .int .u32 0, .int .u32 0, .slice none 0 0] 51) = w1 at hx hb ⊢
  clear hrb
  have HX_w1 := Lib.hid hx
  clear hx
  have B_rb := Lib.hid hb
  clear hb
  have hrbl := row_lt B_rb.out
  go_wp2_with fail
  refine (read_anyF P A l.length c l w1 (RB.keep HR.out HX_w1.out (fun _ _ _ => id)) HA.out hl).mono ?_
  rintro e w2 ⟨p1, g1, rfl, hr2, hb_p1, hb_g1, hx, hz2⟩
  have HX_w2 := Lib.hid hx
  clear hx
  have HR2 := Lib.hid hr2
  clear hr2
  have hrb := row_lt B_rb.out
  have ne_rb_p1 : rb ≠ p1 := by omega
  have ne_rb_g1 : rb ≠ g1 := by omega
  have ne_g1_p1 := HR2.out.apart
  clear hrb
  have HG1 : Hid (g1 < w2.heap.size) := Lib.hid (HR2.out.ltg (by omega))
  go_wp2_with fail
  refine (rbytes_any p1 g1 0 l 20 w2 HR2.out h20).mono ?_
  rintro e w3 ⟨u3, rfl, A3, rfl, hA3, hb3, hr3, hx⟩
  obtain rfl : A3 = some ⟨g1, 0, none⟩ := hA3.resolve_left (by intro h; subst h; simp at h20)
  have h20' : (l.take 20).length = 20 := by rw [List.length_take]; omega
  have HT20 := Lib.hid h20'
  clear h20' hA3
  have HX_w3 := Lib.hid hx
  clear hx
  have HB3 := Lib.hid hb3
  have HR3 := Lib.hid hr3
  clear hb3 hr3 HR2
  have HFZ := Lib.hid (hz2 (by omega))
  clear hz2
  go_wp2_with fail
  refine (read_anyF _ (some ⟨g1, 0, none⟩) 20 20 (l.take 20) w3 HB3.out (fun h => by cases h) (by rw [HT20.out]; omega)).mono ?_
  rintro e w4 ⟨p2, g2, rfl, hr4, hb_p2, hb_g2, hx, _⟩
  have hp1 := HR3.out.lt
  have hg1 : g1 < w3.heap.size := Nat.lt_of_lt_of_le (HG1.out) HX_w3.out.size
  have hrb := row_lt (((HX_w2.out.andThen HX_w3.out (fun i hi e => by have := hb_p1; omega)).block rb (row_lt B_rb.out) id).trans B_rb.out)
  have ne_p1_p2 : p1 ≠ p2 := by omega
  have ne_g1_p2 : g1 ≠ p2 := by omega
  have ne_rb_p2 : rb ≠ p2 := by omega
  have ne_p1_g2 : p1 ≠ g2 := by omega
  have ne_rb_g2 : rb ≠ g2 := by omega
  clear hp1 hg1 hrb
  have HX_w4 := Lib.hid hx
  clear hx
  have HR4 := Lib.hid hr4
  clear hr4
  go_wp2_with fail
  refine (hread_any p2 g2 0 (l.take 20) w4 HR4.out (by rw [HT20.out]; omega)).mono ?_
  rintro e w5 ⟨rfl, hx⟩
  rw [HOF.out]
  have hv : hdv (⟨vi, tos, size, ident, bits, ttl, pr, sum, src, dst⟩ : Hd) = .agg #[.int .u8 vi, .int .u8 tos, .int .u16 size, .int .u16 ident, .int .u16 bits, .int .u8 ttl, .int .u8 pr, .int .u16 sum, .int .u32 src, .int .u32 dst] := rfl
  rw [hv]
  clear hv
  have HX_w5 := Lib.hid hx
  clear hx
  go_upto_region 6 with fail
  have hx : Ex (fun _ => False) w5 (w5.alloc (.cells #[.int .u8 vi, .int .u8 tos, .int .u16 size, .int .u16 ident, .int .u16 bits, .int .u8 ttl, .int .u8 pr, .int .u16 sum, .int .u32 src, .int .u32 dst] 97)) := (Ex.refl _ w5).alloc _
  have hb : (w5.alloc (.cells #[.int .u8 vi, .int .u8 tos, .int .u16 size, .int .u16 ident, .int .u16 bits, .int .u8 ttl, .int .u8 pr, .int .u16 sum, .int .u32 src, .int .u32 dst] 97)).heap[w5.heap.size]? = some (.cells #[.int .u8 vi, .int .u8 tos, .int .u16 size, .int .u16 ident, .int .u16 bits, .int .u8 ttl, .int .u8 pr, .int .u16 sum, .int .u32 src, .int .u32 dst] 97) := heap_alloc_new w5 _
  obtain ⟨qh, hqh⟩ : ∃ qh, qh = w5.heap.size := ⟨_, rfl⟩
  have hb_qh : w5.heap.size ≤ qh := by omega
  rw [← hqh] at hb
  try simp only [← hqh]
  generalize w5.alloc (.cells #[.int .u8 vi, .int .u8 tos, .int .u16 size, .int .u16 ident, .int .u16 bits, .int .u8 ttl, .int .u8 pr, .int .u16 sum, .int .u32 src, .int .u32 dst] 97) = w6 at hx hb ⊢
  clear hqh
  have HX_w6 := Lib.hid hx
  clear hx
  have B_qh := Lib.hid hb
  clear hb
  have cqh0 := row_cell (k := 0) (v := .int .u8 vi) B_qh.out rfl
  have cqh1 := row_cell (k := 1) (v := .int .u8 tos) B_qh.out rfl
  have cqh2 := row_cell (k := 2) (v := .int .u16 size) B_qh.out rfl
  have cqh3 := row_cell (k := 3) (v := .int .u16 ident) B_qh.out rfl
  have cqh4 := row_cell (k := 4) (v := .int .u16 bits) B_qh.out rfl
  have cqh5 := row_cell (k := 5) (v := .int .u8 ttl) B_qh.out rfl
  have cqh6 := row_cell (k := 6) (v := .int .u8 pr) B_qh.out rfl
  have cqh7 := row_cell (k := 7) (v := .int .u16 sum) B_qh.out rfl
  have cqh8 := row_cell (k := 8) (v := .int .u32 src) B_qh.out rfl
  have cqh9 := row_cell (k := 9) (v := .int .u32 dst) B_qh.out rfl
  have hrb3 := (RB.keep HB3.out ((HX_w4.out.andThen HX_w5.out (fun i hi e => by have := hb_p2; omega)).trans HX_w6.out) (fun _ _ _ => id))
  have HC3 := Lib.hid hrb3
  clear hrb3
  go_wp2_with fail
  refine (check_any _ ⟨vi, tos, size, ident, bits, ttl, pr, sum, src, dst⟩ HOK.out _ _ _ (l.take 20) l.length w6 HC3.out (by rw [HT20.out]; omega)).mono ?_
  rintro e w7 ⟨hx, hcase⟩
  clear HC3
  have HX_w7 := Lib.hid hx
  clear hx
  obtain rfl : e = .returned .nilIface := by
    rcases hcase with ⟨_, h⟩ | ⟨h, _⟩
    · exact h
    · exact absurd HCHK.out h
  clear hcase cqh0 cqh1 cqh2 cqh3 cqh4 cqh5 cqh6 cqh7 cqh8 cqh9
  obtain ⟨k1, k2, k3, k4, k5, k6⟩ := Hd.chk_zero HCHK.out
  simp only at k1 k2 k3 k4 k5 k6
  obtain ⟨m, rfl⟩ : ∃ m : Nat, size = (m : Int) + 20 := ⟨(size - 20).toNat, by omega⟩
  clear k1 k2 k5
  obtain ⟨_, _, o2, _, o4, _⟩ := HOK.out
  simp only at o2 o4
  obtain ⟨o21, o22⟩ := o2
  obtain ⟨o41, o42⟩ := o4
  have hml : m ≤ l.length - 20 := by omega
  have hbm : ((l.take ((m : Int) + 20).toNat).drop 20) = (l.drop 20).take m := by rw [show ((m : Int) + 20).toNat = 20 + m by omega, List.take_add, List.drop_left' (by rw [List.length_take]; omega)]
  have HBM := Lib.hid hbm
  clear hbm k3 k4
  have cqh2 := row_cell (k := 2) (v := .int .u16 ((m : Int) + 20)) ((HX_w7.out.block qh (row_lt B_qh.out) id).trans B_qh.out) rfl
  go_wp2_with fail
  refine (rbytes_any p1 g1 _ (l.drop 20) m w7 (RD.keep HR3.out (((HX_w4.out.andThen HX_w5.out (fun i hi e => by have := hb_p2; omega)).trans HX_w6.out).trans HX_w7.out) id (fun _ => id)) (by rw [List.length_drop]; exact hml)).mono ?_
  rintro e w8 ⟨u8, rfl, A8, rfl, hA8, hb8, hr8, hx⟩
  clear hr8 cqh2
  have hhb := row_lt B_qh.out
  have hz7 := HX_w7.out.size
  have hp16 := HR3.out.lt
  have hz36 := (HX_w4.out.andThen HX_w5.out (fun i hi e => by have := hb_p2; omega)).size
  have ne_qh_p1 : qh ≠ p1 := by omega
  clear hhb hp16
  have HX_w8 := Lib.hid hx
  clear hx
  obtain ⟨bb, hbb⟩ : ∃ bb, bb = (l.drop 20).take m := ⟨_, rfl⟩
  rw [← hbb] at hb8 HBM
  have hbl : bb.length = m := by rw [hbb, List.length_take, List.length_drop]; omega
  have HBL := Lib.hid hbl
  have hA8' : bb ≠ [] → A8 = some ⟨g1, 20, none⟩ := fun h => hA8.resolve_left (fun h' => h (by rw [hbb, h']; simp))
  have HA8 := Lib.hid hA8'
  clear hbb hA8 hA8' hml
  have HB8 := Lib.hid hb8
  clear hb8 hbl
  obtain ⟨D2, e21, e22⟩ := and2_bit bits o41 o42
  obtain ⟨D1, e11, e12⟩ := and1_bit bits o41 o42
  have e3 := and_8191 bits o41 o42
  obtain ⟨df, hdf⟩ : ∃ df, df = decide (bits / 16384 % 2 = 1) := ⟨_, rfl⟩
  obtain ⟨mf, hmf⟩ : ∃ mf, mf = decide (bits / 8192 % 2 = 1) := ⟨_, rfl⟩
  rw [← hdf] at e22
  rw [← hmf] at e12
  have HDF := Lib.hid hdf
  have HMF := Lib.hid hmf
  clear hdf hmf
  replace B_qh := Lib.hid ((HX_w8.out.block qh (row_lt ((HX_w7.out.block qh (row_lt B_qh.out) id).trans B_qh.out)) ne_qh_p1).trans ((HX_w7.out.block qh (row_lt B_qh.out) id).trans B_qh.out))
  have cqh0 := row_cell (k := 0) (v := .int .u8 vi) B_qh.out rfl
  have cqh1 := row_cell (k := 1) (v := .int .u8 tos) B_qh.out rfl
  have cqh2 := row_cell (k := 2) (v := .int .u16 ((m : Int) + 20)) B_qh.out rfl
  have cqh3 := row_cell (k := 3) (v := .int .u16 ident) B_qh.out rfl
  have cqh4 := row_cell (k := 4) (v := .int .u16 bits) B_qh.out rfl
  have cqh5 := row_cell (k := 5) (v := .int .u8 ttl) B_qh.out rfl
  have cqh6 := row_cell (k := 6) (v := .int .u8 pr) B_qh.out rfl
  have cqh7 := row_cell (k := 7) (v := .int .u16 sum) B_qh.out rfl
  have cqh8 := row_cell (k := 8) (v := .int .u32 src) B_qh.out rfl
  have cqh9 := row_cell (k := 9) (v := .int .u32 dst) B_qh.out rfl
  go_upto_region 12 with fail
  have hx : Ex (fun _ => False) w8 (w8.alloc (.cells #[.int .u8 tos, .int .u16 ident, .bool df, .bool mf, .int .i64 (bits % 8192 * 8), .int .u8 ttl, .int .u8 pr, .int .u32 src, .int .u32 dst, .slice A8 m m] 51)) := (Ex.refl _ w8).alloc _
  have hb : (w8.alloc (.cells #[.int .u8 tos, .int .u16 ident, .bool df, .bool mf, .int .i64 (bits % 8192 * 8), .int .u8 ttl, .int .u8 pr, .int .u32 src, .int .u32 dst, .slice A8 m m] 51)).heap[w8.heap.size]? = some (.cells #[.int .u8 tos, .int .u16 ident, .bool df, .bool mf, .int .i64 (bits % 8192 * 8), .int .u8 ttl, .int .u8 pr, .int .u32 src, .int .u32 dst, .slice A8 m m] 51) := heap_alloc_new w8 _
  obtain ⟨pb, hpb⟩ : ∃ pb, pb = w8.heap.size := ⟨_, rfl⟩
  have hb_pb : w8.heap.size ≤ pb := by omega
  rw [← hpb] at hb
  try simp only [← hpb]
  generalize w8.alloc (.cells #[.int .u8 tos, .int .u16 ident, .bool df, .bool mf, .int .i64 (bits % 8192 * 8), .int .u8 ttl, .int .u8 pr, .int .u32 src, .int .u32 dst, .slice A8 m m] 51) = w9 at hx hb ⊢
  clear hpb
  have HX_w9 := Lib.hid hx
  clear hx
  have B_pb := Lib.hid hb
  clear hb
  clear e21 e22 e11 e12 e3 cqh0 cqh1 cqh2 cqh3 cqh4 cqh5 cqh6 cqh7 cqh8 cqh9
  have hpk : ppk l = (⟨tos, ident, df, mf, bits % 8192 * 8, ttl, pr, src, dst, bb⟩ : Pk) := by
    unfold ppk
    rw [HH.out, HBM.out, HDF.out, HMF.out]
    rfl
  have HPK := Lib.hid hpk
  clear hpk
  have cpb0 := row_cell (k := 0) (v := .int .u8 tos) B_pb.out rfl
  have cpb1 := row_cell (k := 1) (v := .int .u16 ident) B_pb.out rfl
  have cpb2 := row_cell (k := 2) (v := .bool df) B_pb.out rfl
  have cpb3 := row_cell (k := 3) (v := .bool mf) B_pb.out rfl
  have cpb4 := row_cell (k := 4) (v := .int .i64 (bits % 8192 * 8)) B_pb.out rfl
  have cpb5 := row_cell (k := 5) (v := .int .u8 ttl) B_pb.out rfl
  have cpb6 := row_cell (k := 6) (v := .int .u8 pr) B_pb.out rfl
  have cpb7 := row_cell (k := 7) (v := .int .u32 src) B_pb.out rfl
  have cpb8 := row_cell (k := 8) (v := .int .u32 dst) B_pb.out rfl
  have cpb9 := row_cell (k := 9) (v := .slice A8 m m) B_pb.out rfl
  have hrc := right_any (⟨tos, ident, df, mf, bits % 8192 * 8, ttl, pr, src, dst, bb⟩ : Pk) A8 m w9 (by show bb.length ≤ _; rw [HBL.out]; omega)
  rw [show ((⟨tos, ident, df, mf, bits % 8192 * 8, ttl, pr, src, dst, bb⟩ : Pk).b.length) = m from HBL.out] at hrc
  have HRC := Lib.hid hrc
  clear hrc
  go_wp2_with fail
  refine HRC.out.mono ?_
  rintro e w10 ⟨hx, hcase⟩
  clear HRC
  have hright := HRT.out
  rw [HPK.out] at hright
  obtain ⟨v, rfl, he⟩ : ∃ v, e = .returned v ∧ EC w10 (fun j => w9.heap.size ≤ j) [lay5] v (⟨tos, ident, df, mf, bits % 8192 * 8, ttl, pr, src, dst, bb⟩ : Pk).right := by
    rcases hcase with ⟨h, _⟩ | ⟨_, h⟩
    · exact absurd h hright
    · exact h
  obtain ⟨ty, y, rfl⟩ := he.shape
  clear he hcase hright cpb0 cpb1 cpb2 cpb3 cpb4 cpb5 cpb6 cpb7 cpb8 cpb9
  have HX_w10 := Lib.hid hx
  clear hx
  go_wp2_with fail
  refine (wrong5_no 3 w10).mono ?_
  rintro e w11 ⟨v11, rfl, he, hx⟩
  have HX_w11 := Lib.hid hx
  clear hx
  have HE11 := Lib.hid he
  clear he
  have hz0A := (((((((((HX_w1.out.trans HX_w2.out).andThen HX_w3.out (fun i hi e => by have := HX_w1.out.size; have := hb_p1; omega)).trans HX_w4.out).andThen HX_w5.out (fun i hi e => by have := ((HX_w1.out.trans HX_w2.out).andThen HX_w3.out (fun i hi e => by have := HX_w1.out.size; have := hb_p1; omega)).size; have := hb_p2; omega)).trans HX_w6.out).trans HX_w7.out).andThen HX_w8.out (fun i hi e => by have := HX_w1.out.size; have := hb_p1; omega)).trans HX_w9.out).trans HX_w10.out).size
  have hrb7 := row_lt B_rb.out
  have hz1A := ((((((((HX_w2.out.andThen HX_w3.out (fun i hi e => by have := hb_p1; omega)).trans HX_w4.out).andThen HX_w5.out (fun i hi e => by have := (HX_w2.out.andThen HX_w3.out (fun i hi e => by have := hb_p1; omega)).size; have := hb_p2; omega)).trans HX_w6.out).trans HX_w7.out).andThen HX_w8.out (fun i hi e => by have := hb_p1; omega)).trans HX_w9.out).trans HX_w10.out).size
  replace B_rb := Lib.hid (((((((((((HX_w2.out.andThen HX_w3.out (fun i hi e => by have := hb_p1; omega)).trans HX_w4.out).andThen HX_w5.out (fun i hi e => by have := (HX_w2.out.andThen HX_w3.out (fun i hi e => by have := hb_p1; omega)).size; have := hb_p2; omega)).trans HX_w6.out).trans HX_w7.out).andThen HX_w8.out (fun i hi e => by have := hb_p1; omega)).trans HX_w9.out).trans HX_w10.out).trans HX_w11.out).block rb (row_lt B_rb.out) id).trans B_rb.out)
  have crb0 := row_cell (k := 0) (v := .int .u8 0) B_rb.out rfl
  have crb1 := row_cell (k := 1) (v := .int .u16 0) B_rb.out rfl
  have crb2 := row_cell (k := 2) (v := .bool false) B_rb.out rfl
  have crb3 := row_cell (k := 3) (v := .bool false) B_rb.out rfl
  have crb4 := row_cell (k := 4) (v := .int .i64 0) B_rb.out rfl
  have crb5 := row_cell (k := 5) (v := .int .u8 0) B_rb.out rfl
  have crb6 := row_cell (k := 6) (v := .int .u8 0) B_rb.out rfl
  have crb7 := row_cell (k := 7) (v := .int .u32 0) B_rb.out rfl
  have crb8 := row_cell (k := 8) (v := .int .u32 0) B_rb.out rfl
  have crb9 := row_cell (k := 9) (v := .slice none 0 0) B_rb.out rfl
  have frb0 := row_frozen B_rb.out 0
  have frb1 := row_frozen B_rb.out 1
  have frb2 := row_frozen B_rb.out 2
  have frb3 := row_frozen B_rb.out 3
  have frb4 := row_frozen B_rb.out 4
  have frb5 := row_frozen B_rb.out 5
  have frb6 := row_frozen B_rb.out 6
  have frb7 := row_frozen B_rb.out 7
  have frb8 := row_frozen B_rb.out 8
  have frb9 := row_frozen B_rb.out 9
  go_wp2_with fail
  (try simp only [Exit.inBlock, Exit.then])
  have r0 : (w11.setCell ⟨rb, 0, none⟩ (.int .u8 0)).heap[rb]? = some (.cells #[.int .u8 0, .int .u16 0, .bool false, .bool false, .int .i64 0, .int .u8 0, .int .u8 0, .int .u32 0, .int .u32 0, .slice none 0 0] 51) := row_set B_rb.out 0 (.int .u8 0)
  have r1 : ((w11.setCell ⟨rb, 0, none⟩ (.int .u8 0)).setCell ⟨rb, 1, none⟩ (.int .u16 0)).heap[rb]? = some (.cells #[.int .u8 0, .int .u16 0, .bool false, .bool false, .int .i64 0, .int .u8 0, .int .u8 0, .int .u32 0, .int .u32 0, .slice none 0 0] 51) := row_set r0 1 (.int .u16 0)
  clear r0
  have r2 : (((w11.setCell ⟨rb, 0, none⟩ (.int .u8 0)).setCell ⟨rb, 1, none⟩ (.int .u16 0)).setCell ⟨rb, 2, none⟩ (.bool false)).heap[rb]? = some (.cells #[.int .u8 0, .int .u16 0, .bool false, .bool false, .int .i64 0, .int .u8 0, .int .u8 0, .int .u32 0, .int .u32 0, .slice none 0 0] 51) := row_set r1 2 (.bool false)
  clear r1
  have r3 : ((((w11.setCell ⟨rb, 0, none⟩ (.int .u8 0)).setCell ⟨rb, 1, none⟩ (.int .u16 0)).setCell ⟨rb, 2, none⟩ (.bool false)).setCell ⟨rb, 3, none⟩ (.bool false)).heap[rb]? = some (.cells #[.int .u8 0, .int .u16 0, .bool false, .bool false, .int .i64 0, .int .u8 0, .int .u8 0, .int .u32 0, .int .u32 0, .slice none 0 0] 51) := row_set r2 3 (.bool false)
  clear r2
  have r4 : (((((w11.setCell ⟨rb, 0, none⟩ (.int .u8 0)).setCell ⟨rb, 1, none⟩ (.int .u16 0)).setCell ⟨rb, 2, none⟩ (.bool false)).setCell ⟨rb, 3, none⟩ (.bool false)).setCell ⟨rb, 4, none⟩ (.int .i64 0)).heap[rb]? = some (.cells #[.int .u8 0, .int .u16 0, .bool false, .bool false, .int .i64 0, .int .u8 0, .int .u8 0, .int .u32 0, .int .u32 0, .slice none 0 0] 51) := row_set r3 4 (.int .i64 0)
  clear r3
  have r5 : ((((((w11.setCell ⟨rb, 0, none⟩ (.int .u8 0)).setCell ⟨rb, 1, none⟩ (.int .u16 0)).setCell ⟨rb, 2, none⟩ (.bool false)).setCell ⟨rb, 3, none⟩ (.bool false)).setCell ⟨rb, 4, none⟩ (.int .i64 0)).setCell ⟨rb, 5, none⟩ (.int .u8 0)).heap[rb]? = some (.cells #[.int .u8 0, .int .u16 0, .bool false, .bool false, .int .i64 0, .int .u8 0, .int .u8 0, .int .u32 0, .int .u32 0, .slice none 0 0] 51) := row_set r4 5 (.int .u8 0)
  clear r4
  have r6 : (((((((w11.setCell ⟨rb, 0, none⟩ (.int .u8 0)).setCell ⟨rb, 1, none⟩ (.int .u16 0)).setCell ⟨rb, 2, none⟩ (.bool false)).setCell ⟨rb, 3, none⟩ (.bool false)).setCell ⟨rb, 4, none⟩ (.int .i64 0)).setCell ⟨rb, 5, none⟩ (.int .u8 0)).setCell ⟨rb, 6, none⟩ (.int .u8 0)).heap[rb]? = some (.cells #[.int .u8 0, .int .u16 0, .bool false, .bool false, .int .i64 0, .int .u8 0, .int .u8 0, .int .u32 0, .int .u32 0, .slice none 0 0] 51) := row_set r5 6 (.int .u8 0)
  clear r5
  have r7 : ((((((((w11.setCell ⟨rb, 0, none⟩ (.int .u8 0)).setCell ⟨rb, 1, none⟩ (.int .u16 0)).setCell ⟨rb, 2, none⟩ (.bool false)).setCell ⟨rb, 3, none⟩ (.bool false)).setCell ⟨rb, 4, none⟩ (.int .i64 0)).setCell ⟨rb, 5, none⟩ (.int .u8 0)).setCell ⟨rb, 6, none⟩ (.int .u8 0)).setCell ⟨rb, 7, none⟩ (.int .u32 0)).heap[rb]? = some (.cells #[.int .u8 0, .int .u16 0, .bool false, .bool false, .int .i64 0, .int .u8 0, .int .u8 0, .int .u32 0, .int .u32 0, .slice none 0 0] 51) := row_set r6 7 (.int .u32 0)
  clear r6
  have r8 : (((((((((w11.setCell ⟨rb, 0, none⟩ (.int .u8 0)).setCell ⟨rb, 1, none⟩ (.int .u16 0)).setCell ⟨rb, 2, none⟩ (.bool false)).setCell ⟨rb, 3, none⟩ (.bool false)).setCell ⟨rb, 4, none⟩ (.int .i64 0)).setCell ⟨rb, 5, none⟩ (.int .u8 0)).setCell ⟨rb, 6, none⟩ (.int .u8 0)).setCell ⟨rb, 7, none⟩ (.int .u32 0)).setCell ⟨rb, 8, none⟩ (.int .u32 0)).heap[rb]? = some (.cells #[.int .u8 0, .int .u16 0, .bool false, .bool false, .int .i64 0, .int .u8 0, .int .u8 0, .int .u32 0, .int .u32 0, .slice none 0 0] 51) := row_set r7 8 (.int .u32 0)
  clear r7
  have r9 : ((((((((((w11.setCell ⟨rb, 0, none⟩ (.int .u8 0)).setCell ⟨rb, 1, none⟩ (.int .u16 0)).setCell ⟨rb, 2, none⟩ (.bool false)).setCell ⟨rb, 3, none⟩ (.bool false)).setCell ⟨rb, 4, none⟩ (.int .i64 0)).setCell ⟨rb, 5, none⟩ (.int .u8 0)).setCell ⟨rb, 6, none⟩ (.int .u8 0)).setCell ⟨rb, 7, none⟩ (.int .u32 0)).setCell ⟨rb, 8, none⟩ (.int .u32 0)).setCell ⟨rb, 9, none⟩ (.slice none 0 0)).heap[rb]? = some (.cells #[.int .u8 0, .int .u16 0, .bool false, .bool false, .int .i64 0, .int .u8 0, .int .u8 0, .int .u32 0, .int .u32 0, .slice none 0 0] 51) := row_set r8 9 (.slice none 0 0)
  clear r8
  have hx : Ex (fun j => j = rb) w11 ((((((((((w11.setCell ⟨rb, 0, none⟩ (.int .u8 0)).setCell ⟨rb, 1, none⟩ (.int .u16 0)).setCell ⟨rb, 2, none⟩ (.bool false)).setCell ⟨rb, 3, none⟩ (.bool false)).setCell ⟨rb, 4, none⟩ (.int .i64 0)).setCell ⟨rb, 5, none⟩ (.int .u8 0)).setCell ⟨rb, 6, none⟩ (.int .u8 0)).setCell ⟨rb, 7, none⟩ (.int .u32 0)).setCell ⟨rb, 8, none⟩ (.int .u32 0)).setCell ⟨rb, 9, none⟩ (.slice none 0 0)) := (((((((((((Ex.refl (fun j => j = rb) w11).setCell (p := ⟨rb, 0, none⟩) (.inl rfl) (.int .u8 0)).setCell (p := ⟨rb, 1, none⟩) (.inl rfl) (.int .u16 0)).setCell (p := ⟨rb, 2, none⟩) (.inl rfl) (.bool false)).setCell (p := ⟨rb, 3, none⟩) (.inl rfl) (.bool false)).setCell (p := ⟨rb, 4, none⟩) (.inl rfl) (.int .i64 0)).setCell (p := ⟨rb, 5, none⟩) (.inl rfl) (.int .u8 0)).setCell (p := ⟨rb, 6, none⟩) (.inl rfl) (.int .u8 0)).setCell (p := ⟨rb, 7, none⟩) (.inl rfl) (.int .u32 0)).setCell (p := ⟨rb, 8, none⟩) (.inl rfl) (.int .u32 0)).setCell (p := ⟨rb, 9, none⟩) (.inl rfl) (.slice none 0 0))
  clear crb0 crb1 crb2 crb3 crb4 crb5 crb6 crb7 crb8 crb9 frb0 frb1 frb2 frb3 frb4 frb5 frb6 frb7 frb8 frb9
  generalize ((((((((((w11.setCell ⟨rb, 0, none⟩ (.int .u8 0)).setCell ⟨rb, 1, none⟩ (.int .u16 0)).setCell ⟨rb, 2, none⟩ (.bool false)).setCell ⟨rb, 3, none⟩ (.bool false)).setCell ⟨rb, 4, none⟩ (.int .i64 0)).setCell ⟨rb, 5, none⟩ (.int .u8 0)).setCell ⟨rb, 6, none⟩ (.int .u8 0)).setCell ⟨rb, 7, none⟩ (.int .u32 0)).setCell ⟨rb, 8, none⟩ (.int .u32 0)).setCell ⟨rb, 9, none⟩ (.slice none 0 0)) = wz at r9 hx ⊢
  have HROW := Lib.hid r9
  clear r9
  have HX_wz := Lib.hid hx
  clear hx
  refine bodyPost_ret (v := .tuple #[.agg #[.int .u8 0, .int .u16 0, .bool false, .bool false, .int .i64 0, .int .u8 0, .int .u8 0, .int .u32 0, .int .u32 0, .slice none 0 0], v11]) ?_ rfl ⟨(((((((((((HX_w1.out.trans HX_w2.out).andThen HX_w3.out (fun i hi e => by have := HX_w1.out.size; have := hb_p1; omega)).trans HX_w4.out).andThen HX_w5.out (fun i hi e => by have := ((HX_w1.out.trans HX_w2.out).andThen HX_w3.out (fun i hi e => by have := HX_w1.out.size; have := hb_p1; omega)).size; have := hb_p2; omega)).trans HX_w6.out).trans HX_w7.out).andThen HX_w8.out (fun i hi e => by have := HX_w1.out.size; have := hb_p1; omega)).trans HX_w9.out).trans HX_w10.out).trans HX_w11.out).andThen HX_wz.out (fun i hi e => by have := hb_rb; omega)), v11, rfl, EC.up (EC.keepB HX_wz.out (by omega) HE11.out) (by omega)⟩
  exact results_cell_row2 (p := 2) (u := 3) rfl _ _ rb 51 #[.int .u8 0, .int .u16 0, .bool false, .bool false, .int .i64 0, .int .u8 0, .int .u8 0, .int .u32 0, .int .u32 0, .slice none 0 0] (0, 0) _ _ rfl rfl HROW.out Tryd.underlying51 rfl pk_size
set_option maxRecDepth 100000 in
set_option maxHeartbeats 4000000 in
theorem ipparse_4 (P : Nat → Prop) (A : Option Addr) (n c : Nat) (l : List UInt8) (w : World) (hr : RB w P (.slice A n c) l) (hA : A = none → c = 0) (hl : l.length ≤ 1000000000) (h20 : 20 ≤ l.length) (hchk : (Hd.of l).chk (su (l.take 20)) l.length = 0) (hright : (ppk l).right = 0) :
    Calls Tryd.prog 24 #[.slice A n c] w fun e w' => Ex (fun _ => False) w w' ∧ ∃ A' g o, e = .returned (.tuple #[pkv (ppk l) (.slice A' (ppk l).b.length (ppk l).b.length), .nilIface]) ∧ w.heap.size ≤ g ∧ RB w' (fun j => j = g) (.slice A' (ppk l).b.length (ppk l).b.length) (ppk l).b ∧ ((ppk l).b ≠ [] → A' = some ⟨g, o, none⟩ ∧ ∀ x, w'.frozen? ⟨g, x, none⟩ = false) := by
  obtain rfl : n = l.length := by obtain ⟨_, _, _, e, _⟩ := hr; injection e
  obtain ⟨H, hH⟩ : ∃ H, Hd.of l = H := ⟨_, rfl⟩
  have hok := Hd.of_ok l
  have hof := Hd.of_take h20
  rw [hH] at hok hof hchk
  have HH := Lib.hid hH
  obtain ⟨vi, tos, size, ident, bits, ttl, pr, sum, src, dst⟩ := H
  have HOK := Lib.hid hok
  have HOF := Lib.hid hof
  have HCHK := Lib.hid hchk
  clear hof hchk hH
  have HRT := Lib.hid hright
  clear hright
  have HR := Lib.hid hr
  have HA := Lib.hid hA
  clear hr hA
  go_enter Tryd.func24, Tryd.ntmps24
  go_upto_region 1 with fail
  have hx : Ex (fun _ => False) w (w.alloc (.cells #[.int .u8 0, .int .u16 0, .bool false, .bool false, .int .i64 0, .int .u8 0, .int .u8 0, .int .u32 0, .int .u32 0, .slice none 0 0] 51)) := (Ex.refl _ w).alloc _
  have hb : (w.alloc (.cells #[.int .u8 0, .int .u16 0, .bool false, .bool false, .int .i64 0, .int .u8 0, .int .u8 0, .int .u32 0, .int .u32 0, .slice none 0 0] 51)).heap[w.heap.size]? = some (.cells #[.int .u8 0, .int .u16 0, .bool false, .bool false, .int .i64 0, .int .u8 0, .int .u8 0, .int .u32 0, .int .u32 0, .slice none 0 0] 51) := heap_alloc_new w _
  obtain ⟨rb, hrb⟩ : ∃ rb, rb = w.heap.size := ⟨_, rfl⟩
  have hb_rb : w.heap.size ≤ rb := by omega
  rw [← hrb] at hb
  try simp only [← hrb]
  generalize w.alloc (.cells #[.int .u8 0, .int .u16 0, .bool false, .bool false, .int .i64 0, .int .u8 0, .int .u8 0, .int .u32 0, .int .u32 0, .slice none 0 0] 51) = w1 at hx hb ⊢
  clear hrb
  have HX_w1 := Lib.hid hx
  clear hx
  have B_rb := Lib.hid hb
  clear hb
  have hrbl := row_lt B_rb.out
  go_wp2_with fail
  refine (read_anyF P A l.length c l w1 (RB.keep HR.out HX_w1.out (fun _ _ _ => id)) HA.out hl).mono ?_
  rintro e w2 ⟨p1, g1, rfl, hr2, hb_p1, hb_g1, hx, hz2⟩
  have HX_w2 := Lib.hid hx
  clear hx
  have HR2 := Lib.hid hr2
  clear hr2
  have hrb := row_lt B_rb.out
  have ne_rb_p1 : rb ≠ p1 := by omega
  have ne_rb_g1 : rb ≠ g1 := by omega
  have ne_g1_p1 := HR2.out.apart
  clear hrb
  have HG1 : Hid (g1 < w2.heap.size) := Lib.hid (HR2.out.ltg (by omega))
  go_wp2_with fail
  refine (rbytes_any p1 g1 0 l 20 w2 HR2.out h20).mono ?_
  rintro e w3 ⟨u3, rfl, A3, rfl, hA3, hb3, hr3, hx⟩
  obtain rfl : A3 = some ⟨g1, 0, none⟩ := hA3.resolve_left (by intro h; subst h; simp at h20)
  have h20' : (l.take 20).length = 20 := by rw [List.length_take]; omega
  have HT20 := Lib.hid h20'
  clear h20' hA3
  have HX_w3 := Lib.hid hx
  clear hx
  have HB3 := Lib.hid hb3
  have HR3 := Lib.hid hr3
  clear hb3 hr3 HR2
  have HFZ := Lib.hid (hz2 (by omega))
  clear hz2
  go_wp2_with fail
  refine (read_anyF _ (some ⟨g1, 0, none⟩) 20 20 (l.take 20) w3 HB3.out (fun h => by cases h) (by rw [HT20.out]; omega)).mono ?_
  rintro e w4 ⟨p2, g2, rfl, hr4, hb_p2, hb_g2, hx, _⟩
  have hp1 := HR3.out.lt
  have hg1 : g1 < w3.heap.size := Nat.lt_of_lt_of_le (HG1.out) HX_w3.out.size
  have hrb := row_lt (((HX_w2.out.andThen HX_w3.out (fun i hi e => by have := hb_p1; omega)).block rb (row_lt B_rb.out) id).trans B_rb.out)
  have ne_p1_p2 : p1 ≠ p2 := by omega
  have ne_g1_p2 : g1 ≠ p2 := by omega
  have ne_rb_p2 : rb ≠ p2 := by omega
  have ne_p1_g2 : p1 ≠ g2 := by omega
  have ne_rb_g2 : rb ≠ g2 := by omega
  clear hp1 hg1 hrb
  have HX_w4 := Lib.hid hx
  clear hx
  have HR4 := Lib.hid hr4
  clear hr4
  go_wp2_with fail
  refine (hread_any p2 g2 0 (l.take 20) w4 HR4.out (by rw [HT20.out]; omega)).mono ?_
  rintro e w5 ⟨rfl, hx⟩
  rw [HOF.out]
  have hv : hdv (⟨vi, tos, size, ident, bits, ttl, pr, sum, src, dst⟩ : Hd) = .agg #[.int .u8 vi, .int .u8 tos, .int .u16 size, .int .u16 ident, .int .u16 bits, .int .u8 ttl, .int .u8 pr, .int .u16 sum, .int .u32 src, .int .u32 dst] := rfl
  rw [hv]
  clear hv
  have HX_w5 := Lib.hid hx
  clear hx
  go_upto_region 6 with fail
  have hx : Ex (fun _ => False) w5 (w5.alloc (.cells #[.int .u8 vi, .int .u8 tos, .int .u16 size, .int .u16 ident, .int .u16 bits, .int .u8 ttl, .int .u8 pr, .int .u16 sum, .int .u32 src, .int .u32 dst] 97)) := (Ex.refl _ w5).alloc _
  have hb : (w5.alloc (.cells #[.int .u8 vi, .int .u8 tos, .int .u16 size, .int .u16 ident, .int .u16 bits, .int .u8 ttl, .int .u8 pr, .int .u16 sum, .int .u32 src, .int .u32 dst] 97)).heap[w5.heap.size]? = some (.cells #[.int .u8 vi, .int .u8 tos, .int .u16 size, .int .u16 ident, .int .u16 bits, .int .u8 ttl, .int .u8 pr, .int .u16 sum, .int .u32 src, .int .u32 dst] 97) := heap_alloc_new w5 _
  obtain ⟨qh, hqh⟩ : ∃ qh, qh = w5.heap.size := ⟨_, rfl⟩
  have hb_qh : w5.heap.size ≤ qh := by omega
  rw [← hqh] at hb
  try simp only [← hqh]
  generalize w5.alloc (.cells #[.int .u8 vi, .int .u8 tos, .int .u16 size, .int .u16 ident, .int .u16 bits, .int .u8 ttl, .int .u8 pr, .int .u16 sum, .int .u32 src, .int .u32 dst] 97) = w6 at hx hb ⊢
  clear hqh
  have HX_w6 := Lib.hid hx
  clear hx
  have B_qh := Lib.hid hb
  clear hb
  have cqh0 := row_cell (k := 0) (v := .int .u8 vi) B_qh.out rfl
  have cqh1 := row_cell (k := 1) (v := .int .u8 tos) B_qh.out rfl
  have cqh2 := row_cell (k := 2) (v := .int .u16 size) B_qh.out rfl
  have cqh3 := row_cell (k := 3) (v := .int .u16 ident) B_qh.out rfl
  have cqh4 := row_cell (k := 4) (v := .int .u16 bits) B_qh.out rfl
  have cqh5 := row_cell (k := 5) (v := .int .u8 ttl) B_qh.out rfl
  have cqh6 := row_cell (k := 6) (v := .int .u8 pr) B_qh.out rfl
  have cqh7 := row_cell (k := 7) (v := .int .u16 sum) B_qh.out rfl
  have cqh8 := row_cell (k := 8) (v := .int .u32 src) B_qh.out rfl
  have cqh9 := row_cell (k := 9) (v := .int .u32 dst) B_qh.out rfl
  have hrb3 := (RB.keep HB3.out ((HX_w4.out.andThen HX_w5.out (fun i hi e => by have := hb_p2; omega)).trans HX_w6.out) (fun _ _ _ => id))
  have HC3 := Lib.hid hrb3
  clear hrb3
  go_wp2_with fail
  refine (check_any _ ⟨vi, tos, size, ident, bits, ttl, pr, sum, src, dst⟩ HOK.out _ _ _ (l.take 20) l.length w6 HC3.out (by rw [HT20.out]; omega)).mono ?_
  rintro e w7 ⟨hx, hcase⟩
  clear HC3
  have HX_w7 := Lib.hid hx
  clear hx
  obtain rfl : e = .returned .nilIface := by
    rcases hcase with ⟨_, h⟩ | ⟨h, _⟩
    · exact h
    · exact absurd HCHK.out h
  clear hcase cqh0 cqh1 cqh2 cqh3 cqh4 cqh5 cqh6 cqh7 cqh8 cqh9
  obtain ⟨k1, k2, k3, k4, k5, k6⟩ := Hd.chk_zero HCHK.out
  simp only at k1 k2 k3 k4 k5 k6
  obtain ⟨m, rfl⟩ : ∃ m : Nat, size = (m : Int) + 20 := ⟨(size - 20).toNat, by omega⟩
  clear k1 k2 k5
  obtain ⟨_, _, o2, _, o4, _⟩ := HOK.out
  simp only at o2 o4
  obtain ⟨o21, o22⟩ := o2
  obtain ⟨o41, o42⟩ := o4
  have hml : m ≤ l.length - 20 := by omega
  have hbm : ((l.take ((m : Int) + 20).toNat).drop 20) = (l.drop 20).take m := by rw [show ((m : Int) + 20).toNat = 20 + m by omega, List.take_add, List.drop_left' (by rw [List.length_take]; omega)]
  have HBM := Lib.hid hbm
  clear hbm k3 k4
  have cqh2 := row_cell (k := 2) (v := .int .u16 ((m : Int) + 20)) ((HX_w7.out.block qh (row_lt B_qh.out) id).trans B_qh.out) rfl
  go_wp2_with fail
  refine (rbytes_any p1 g1 _ (l.drop 20) m w7 (RD.keep HR3.out (((HX_w4.out.andThen HX_w5.out (fun i hi e => by have := hb_p2; omega)).trans HX_w6.out).trans HX_w7.out) id (fun _ => id)) (by rw [List.length_drop]; exact hml)).mono ?_
  rintro e w8 ⟨u8, rfl, A8, rfl, hA8, hb8, hr8, hx⟩
  clear hr8 cqh2
  have hhb := row_lt B_qh.out
  have hz7 := HX_w7.out.size
  have hp16 := HR3.out.lt
  have hz36 := (HX_w4.out.andThen HX_w5.out (fun i hi e => by have := hb_p2; omega)).size
  have ne_qh_p1 : qh ≠ p1 := by omega
  clear hhb hp16
  have HX_w8 := Lib.hid hx
  clear hx
  obtain ⟨bb, hbb⟩ : ∃ bb, bb = (l.drop 20).take m := ⟨_, rfl⟩
  rw [← hbb] at hb8 HBM
  have hbl : bb.length = m := by rw [hbb, List.length_take, List.length_drop]; omega
  have HBL := Lib.hid hbl
  have hA8' : bb ≠ [] → A8 = some ⟨g1, 20, none⟩ := fun h => hA8.resolve_left (fun h' => h (by rw [hbb, h']; simp))
  have HA8 := Lib.hid hA8'
  clear hbb hA8 hA8' hml
  have HB8 := Lib.hid hb8
  clear hb8 hbl
  obtain ⟨D2, e21, e22⟩ := and2_bit bits o41 o42
  obtain ⟨D1, e11, e12⟩ := and1_bit bits o41 o42
  have e3 := and_8191 bits o41 o42
  obtain ⟨df, hdf⟩ : ∃ df, df = decide (bits / 16384 % 2 = 1) := ⟨_, rfl⟩
  obtain ⟨mf, hmf⟩ : ∃ mf, mf = decide (bits / 8192 % 2 = 1) := ⟨_, rfl⟩
  rw [← hdf] at e22
  rw [← hmf] at e12
  have HDF := Lib.hid hdf
  have HMF := Lib.hid hmf
  clear hdf hmf
  replace B_qh := Lib.hid ((HX_w8.out.block qh (row_lt ((HX_w7.out.block qh (row_lt B_qh.out) id).trans B_qh.out)) ne_qh_p1).trans ((HX_w7.out.block qh (row_lt B_qh.out) id).trans B_qh.out))
  have cqh0 := row_cell (k := 0) (v := .int .u8 vi) B_qh.out rfl
  have cqh1 := row_cell (k := 1) (v := .int .u8 tos) B_qh.out rfl
  have cqh2 := row_cell (k := 2) (v := .int .u16 ((m : Int) + 20)) B_qh.out rfl
  have cqh3 := row_cell (k := 3) (v := .int .u16 ident) B_qh.out rfl
  have cqh4 := row_cell (k := 4) (v := .int .u16 bits) B_qh.out rfl
  have cqh5 := row_cell (k := 5) (v := .int .u8 ttl) B_qh.out rfl
  have cqh6 := row_cell (k := 6) (v := .int .u8 pr) B_qh.out rfl
  have cqh7 := row_cell (k := 7) (v := .int .u16 sum) B_qh.out rfl
  have cqh8 := row_cell (k := 8) (v := .int .u32 src) B_qh.out rfl
  have cqh9 := row_cell (k := 9) (v := .int .u32 dst) B_qh.out rfl
  go_upto_region 12 with fail
  have hx : Ex (fun _ => False) w8 (w8.alloc (.cells #[.int .u8 tos, .int .u16 ident, .bool df, .bool mf, .int .i64 (bits % 8192 * 8), .int .u8 ttl, .int .u8 pr, .int .u32 src, .int .u32 dst, .slice A8 m m] 51)) := (Ex.refl _ w8).alloc _
  have hb : (w8.alloc (.cells #[.int .u8 tos, .int .u16 ident, .bool df, .bool mf, .int .i64 (bits % 8192 * 8), .int .u8 ttl, .int .u8 pr, .int .u32 src, .int .u32 dst, .slice A8 m m] 51)).heap[w8.heap.size]? = some (.cells #[.int .u8 tos, .int .u16 ident, .bool df, .bool mf, .int .i64 (bits % 8192 * 8), .int .u8 ttl, .int .u8 pr, .int .u32 src, .int .u32 dst, .slice A8 m m] 51) := heap_alloc_new w8 _
  obtain ⟨pb, hpb⟩ : ∃ pb, pb = w8.heap.size := ⟨_, rfl⟩
  have hb_pb : w8.heap.size ≤ pb := by omega
  rw [← hpb] at hb
  try simp only [← hpb]
  generalize w8.alloc (.cells #[.int .u8 tos, .int .u16 ident, .bool df, .bool mf, .int .i64 (bits % 8192 * 8), .int .u8 ttl, .int .u8 pr, .int .u32 src, .int .u32 dst, .slice A8 m m] 51) = w9 at hx hb ⊢
  clear hpb
  have HX_w9 := Lib.hid hx
  clear hx
  have B_pb := Lib.hid hb
  clear hb
  clear e21 e22 e11 e12 e3 cqh0 cqh1 cqh2 cqh3 cqh4 cqh5 cqh6 cqh7 cqh8 cqh9
  have hpk : ppk l = (⟨tos, ident, df, mf, bits % 8192 * 8, ttl, pr, src, dst, bb⟩ : Pk) := by
    unfold ppk
    rw [HH.out, HBM.out, HDF.out, HMF.out]
    rfl
  have HPK := Lib.hid hpk
  clear hpk
  have cpb0 := row_cell (k := 0) (v := .int .u8 tos) B_pb.out rfl
  have cpb1 := row_cell (k := 1) (v := .int .u16 ident) B_pb.out rfl
  have cpb2 := row_cell (k := 2) (v := .bool df) B_pb.out rfl
  have cpb3 := row_cell (k := 3) (v := .bool mf) B_pb.out rfl
  have cpb4 := row_cell (k := 4) (v := .int .i64 (bits % 8192 * 8)) B_pb.out rfl
  have cpb5 := row_cell (k := 5) (v := .int .u8 ttl) B_pb.out rfl
  have cpb6 := row_cell (k := 6) (v := .int .u8 pr) B_pb.out rfl
  have cpb7 := row_cell (k := 7) (v := .int .u32 src) B_pb.out rfl
  have cpb8 := row_cell (k := 8) (v := .int .u32 dst) B_pb.out rfl
  have cpb9 := row_cell (k := 9) (v := .slice A8 m m) B_pb.out rfl
  have hrc := right_any (⟨tos, ident, df, mf, bits % 8192 * 8, ttl, pr, src, dst, bb⟩ : Pk) A8 m w9 (by show bb.length ≤ _; rw [HBL.out]; omega)
  rw [show ((⟨tos, ident, df, mf, bits % 8192 * 8, ttl, pr, src, dst, bb⟩ : Pk).b.length) = m from HBL.out] at hrc
  have HRC := Lib.hid hrc
  clear hrc
  go_wp2_with fail
  refine HRC.out.mono ?_
  rintro e w10 ⟨hx, hcase⟩
  clear HRC
  have hright := HRT.out
  rw [HPK.out] at hright
  obtain rfl : e = .returned .nilIface := by
    rcases hcase with ⟨_, h⟩ | ⟨h, _⟩
    · exact h
    · exact absurd hright h
  clear hcase hright cpb0 cpb1 cpb2 cpb3 cpb4 cpb5 cpb6 cpb7 cpb8 cpb9
  have hE : pkv (ppk l) (.slice A8 (ppk l).b.length (ppk l).b.length) = .agg #[.int .u8 tos, .int .u16 ident, .bool df, .bool mf, .int .i64 (bits % 8192 * 8), .int .u8 ttl, .int .u8 pr, .int .u32 src, .int .u32 dst, .slice A8 m m] := by
    rw [HPK.out, show ((⟨tos, ident, df, mf, bits % 8192 * 8, ttl, pr, src, dst, bb⟩ : Pk).b.length) = m from HBL.out]
    rfl
  have HEE := Lib.hid hE
  clear hE
  have HX_w10 := Lib.hid hx
  clear hx
  replace B_pb := Lib.hid ((HX_w10.out.block pb (row_lt B_pb.out) id).trans B_pb.out)
  have cpb0 := row_cell (k := 0) (v := .int .u8 tos) B_pb.out rfl
  have cpb1 := row_cell (k := 1) (v := .int .u16 ident) B_pb.out rfl
  have cpb2 := row_cell (k := 2) (v := .bool df) B_pb.out rfl
  have cpb3 := row_cell (k := 3) (v := .bool mf) B_pb.out rfl
  have cpb4 := row_cell (k := 4) (v := .int .i64 (bits % 8192 * 8)) B_pb.out rfl
  have cpb5 := row_cell (k := 5) (v := .int .u8 ttl) B_pb.out rfl
  have cpb6 := row_cell (k := 6) (v := .int .u8 pr) B_pb.out rfl
  have cpb7 := row_cell (k := 7) (v := .int .u32 src) B_pb.out rfl
  have cpb8 := row_cell (k := 8) (v := .int .u32 dst) B_pb.out rfl
  have cpb9 := row_cell (k := 9) (v := .slice A8 m m) B_pb.out rfl
  have hz0A := HX_w1.out.size
  replace B_rb := Lib.hid ((((((((((HX_w2.out.andThen HX_w3.out (fun i hi e => by have := hb_p1; omega)).trans HX_w4.out).andThen HX_w5.out (fun i hi e => by have := (HX_w2.out.andThen HX_w3.out (fun i hi e => by have := hb_p1; omega)).size; have := hb_p2; omega)).trans HX_w6.out).trans HX_w7.out).andThen HX_w8.out (fun i hi e => by have := hb_p1; omega)).trans HX_w9.out).trans HX_w10.out).block rb (row_lt B_rb.out) id).trans B_rb.out)
  have crb0 := row_cell (k := 0) (v := .int .u8 0) B_rb.out rfl
  have crb1 := row_cell (k := 1) (v := .int .u16 0) B_rb.out rfl
  have crb2 := row_cell (k := 2) (v := .bool false) B_rb.out rfl
  have crb3 := row_cell (k := 3) (v := .bool false) B_rb.out rfl
  have crb4 := row_cell (k := 4) (v := .int .i64 0) B_rb.out rfl
  have crb5 := row_cell (k := 5) (v := .int .u8 0) B_rb.out rfl
  have crb6 := row_cell (k := 6) (v := .int .u8 0) B_rb.out rfl
  have crb7 := row_cell (k := 7) (v := .int .u32 0) B_rb.out rfl
  have crb8 := row_cell (k := 8) (v := .int .u32 0) B_rb.out rfl
  have crb9 := row_cell (k := 9) (v := .slice none 0 0) B_rb.out rfl
  have frb0 := row_frozen B_rb.out 0
  have frb1 := row_frozen B_rb.out 1
  have frb2 := row_frozen B_rb.out 2
  have frb3 := row_frozen B_rb.out 3
  have frb4 := row_frozen B_rb.out 4
  have frb5 := row_frozen B_rb.out 5
  have frb6 := row_frozen B_rb.out 6
  have frb7 := row_frozen B_rb.out 7
  have frb8 := row_frozen B_rb.out 8
  have frb9 := row_frozen B_rb.out 9
  go_wp2_with fail
  (try simp only [Exit.inBlock, Exit.then])
  have r0 : (w10.setCell ⟨rb, 0, none⟩ (.int .u8 tos)).heap[rb]? = some (.cells #[.int .u8 tos, .int .u16 0, .bool false, .bool false, .int .i64 0, .int .u8 0, .int .u8 0, .int .u32 0, .int .u32 0, .slice none 0 0] 51) := row_set B_rb.out 0 (.int .u8 tos)
  have r1 : ((w10.setCell ⟨rb, 0, none⟩ (.int .u8 tos)).setCell ⟨rb, 1, none⟩ (.int .u16 ident)).heap[rb]? = some (.cells #[.int .u8 tos, .int .u16 ident, .bool false, .bool false, .int .i64 0, .int .u8 0, .int .u8 0, .int .u32 0, .int .u32 0, .slice none 0 0] 51) := row_set r0 1 (.int .u16 ident)
  clear r0
  have r2 : (((w10.setCell ⟨rb, 0, none⟩ (.int .u8 tos)).setCell ⟨rb, 1, none⟩ (.int .u16 ident)).setCell ⟨rb, 2, none⟩ (.bool df)).heap[rb]? = some (.cells #[.int .u8 tos, .int .u16 ident, .bool df, .bool false, .int .i64 0, .int .u8 0, .int .u8 0, .int .u32 0, .int .u32 0, .slice none 0 0] 51) := row_set r1 2 (.bool df)
  clear r1
  have r3 : ((((w10.setCell ⟨rb, 0, none⟩ (.int .u8 tos)).setCell ⟨rb, 1, none⟩ (.int .u16 ident)).setCell ⟨rb, 2, none⟩ (.bool df)).setCell ⟨rb, 3, none⟩ (.bool mf)).heap[rb]? = some (.cells #[.int .u8 tos, .int .u16 ident, .bool df, .bool mf, .int .i64 0, .int .u8 0, .int .u8 0, .int .u32 0, .int .u32 0, .slice none 0 0] 51) := row_set r2 3 (.bool mf)
  clear r2
  have r4 : (((((w10.setCell ⟨rb, 0, none⟩ (.int .u8 tos)).setCell ⟨rb, 1, none⟩ (.int .u16 ident)).setCell ⟨rb, 2, none⟩ (.bool df)).setCell ⟨rb, 3, none⟩ (.bool mf)).setCell ⟨rb, 4, none⟩ (.int .i64 (bits % 8192 * 8))).heap[rb]? = some (.cells #[.int .u8 tos, .int .u16 ident, .bool df, .bool mf, .int .i64 (bits % 8192 * 8), .int .u8 0, .int .u8 0, .int .u32 0, .int .u32 0, .slice none 0 0] 51) := row_set r3 4 (.int .i64 (bits % 8192 * 8))
  clear r3
  have r5 : ((((((w10.setCell ⟨rb, 0, none⟩ (.int .u8 tos)).setCell ⟨rb, 1, none⟩ (.int .u16 ident)).setCell ⟨rb, 2, none⟩ (.bool df)).setCell ⟨rb, 3, none⟩ (.bool mf)).setCell ⟨rb, 4, none⟩ (.int .i64 (bits % 8192 * 8))).setCell ⟨rb, 5, none⟩ (.int .u8 ttl)).heap[rb]? = some (.cells #[.int .u8 tos, .int .u16 ident, .bool df, .bool mf, .int .i64 (bits % 8192 * 8), .int .u8 ttl, .int .u8 0, .int .u32 0, .int .u32 0, .slice none 0 0] 51) := row_set r4 5 (.int .u8 ttl)
  clear r4
  have r6 : (((((((w10.setCell ⟨rb, 0, none⟩ (.int .u8 tos)).setCell ⟨rb, 1, none⟩ (.int .u16 ident)).setCell ⟨rb, 2, none⟩ (.bool df)).setCell ⟨rb, 3, none⟩ (.bool mf)).setCell ⟨rb, 4, none⟩ (.int .i64 (bits % 8192 * 8))).setCell ⟨rb, 5, none⟩ (.int .u8 ttl)).setCell ⟨rb, 6, none⟩ (.int .u8 pr)).heap[rb]? = some (.cells #[.int .u8 tos, .int .u16 ident, .bool df, .bool mf, .int .i64 (bits % 8192 * 8), .int .u8 ttl, .int .u8 pr, .int .u32 0, .int .u32 0, .slice none 0 0] 51) := row_set r5 6 (.int .u8 pr)
  clear r5
  have r7 : ((((((((w10.setCell ⟨rb, 0, none⟩ (.int .u8 tos)).setCell ⟨rb, 1, none⟩ (.int .u16 ident)).setCell ⟨rb, 2, none⟩ (.bool df)).setCell ⟨rb, 3, none⟩ (.bool mf)).setCell ⟨rb, 4, none⟩ (.int .i64 (bits % 8192 * 8))).setCell ⟨rb, 5, none⟩ (.int .u8 ttl)).setCell ⟨rb, 6, none⟩ (.int .u8 pr)).setCell ⟨rb, 7, none⟩ (.int .u32 src)).heap[rb]? = some (.cells #[.int .u8 tos, .int .u16 ident, .bool df, .bool mf, .int .i64 (bits % 8192 * 8), .int .u8 ttl, .int .u8 pr, .int .u32 src, .int .u32 0, .slice none 0 0] 51) := row_set r6 7 (.int .u32 src)
  clear r6
  have r8 : (((((((((w10.setCell ⟨rb, 0, none⟩ (.int .u8 tos)).setCell ⟨rb, 1, none⟩ (.int .u16 ident)).setCell ⟨rb, 2, none⟩ (.bool df)).setCell ⟨rb, 3, none⟩ (.bool mf)).setCell ⟨rb, 4, none⟩ (.int .i64 (bits % 8192 * 8))).setCell ⟨rb, 5, none⟩ (.int .u8 ttl)).setCell ⟨rb, 6, none⟩ (.int .u8 pr)).setCell ⟨rb, 7, none⟩ (.int .u32 src)).setCell ⟨rb, 8, none⟩ (.int .u32 dst)).heap[rb]? = some (.cells #[.int .u8 tos, .int .u16 ident, .bool df, .bool mf, .int .i64 (bits % 8192 * 8), .int .u8 ttl, .int .u8 pr, .int .u32 src, .int .u32 dst, .slice none 0 0] 51) := row_set r7 8 (.int .u32 dst)
  clear r7
  have r9 : ((((((((((w10.setCell ⟨rb, 0, none⟩ (.int .u8 tos)).setCell ⟨rb, 1, none⟩ (.int .u16 ident)).setCell ⟨rb, 2, none⟩ (.bool df)).setCell ⟨rb, 3, none⟩ (.bool mf)).setCell ⟨rb, 4, none⟩ (.int .i64 (bits % 8192 * 8))).setCell ⟨rb, 5, none⟩ (.int .u8 ttl)).setCell ⟨rb, 6, none⟩ (.int .u8 pr)).setCell ⟨rb, 7, none⟩ (.int .u32 src)).setCell ⟨rb, 8, none⟩ (.int .u32 dst)).setCell ⟨rb, 9, none⟩ (.slice A8 m m)).heap[rb]? = some (.cells #[.int .u8 tos, .int .u16 ident, .bool df, .bool mf, .int .i64 (bits % 8192 * 8), .int .u8 ttl, .int .u8 pr, .int .u32 src, .int .u32 dst, .slice A8 m m] 51) := row_set r8 9 (.slice A8 m m)
  clear r8
  have hx : Ex (fun j => j = rb) w10 ((((((((((w10.setCell ⟨rb, 0, none⟩ (.int .u8 tos)).setCell ⟨rb, 1, none⟩ (.int .u16 ident)).setCell ⟨rb, 2, none⟩ (.bool df)).setCell ⟨rb, 3, none⟩ (.bool mf)).setCell ⟨rb, 4, none⟩ (.int .i64 (bits % 8192 * 8))).setCell ⟨rb, 5, none⟩ (.int .u8 ttl)).setCell ⟨rb, 6, none⟩ (.int .u8 pr)).setCell ⟨rb, 7, none⟩ (.int .u32 src)).setCell ⟨rb, 8, none⟩ (.int .u32 dst)).setCell ⟨rb, 9, none⟩ (.slice A8 m m)) := (((((((((((Ex.refl (fun j => j = rb) w10).setCell (p := ⟨rb, 0, none⟩) (.inl rfl) (.int .u8 tos)).setCell (p := ⟨rb, 1, none⟩) (.inl rfl) (.int .u16 ident)).setCell (p := ⟨rb, 2, none⟩) (.inl rfl) (.bool df)).setCell (p := ⟨rb, 3, none⟩) (.inl rfl) (.bool mf)).setCell (p := ⟨rb, 4, none⟩) (.inl rfl) (.int .i64 (bits % 8192 * 8))).setCell (p := ⟨rb, 5, none⟩) (.inl rfl) (.int .u8 ttl)).setCell (p := ⟨rb, 6, none⟩) (.inl rfl) (.int .u8 pr)).setCell (p := ⟨rb, 7, none⟩) (.inl rfl) (.int .u32 src)).setCell (p := ⟨rb, 8, none⟩) (.inl rfl) (.int .u32 dst)).setCell (p := ⟨rb, 9, none⟩) (.inl rfl) (.slice A8 m m))
  clear crb0 crb1 crb2 crb3 crb4 crb5 crb6 crb7 crb8 crb9 frb0 frb1 frb2 frb3 frb4 frb5 frb6 frb7 frb8 frb9
  generalize ((((((((((w10.setCell ⟨rb, 0, none⟩ (.int .u8 tos)).setCell ⟨rb, 1, none⟩ (.int .u16 ident)).setCell ⟨rb, 2, none⟩ (.bool df)).setCell ⟨rb, 3, none⟩ (.bool mf)).setCell ⟨rb, 4, none⟩ (.int .i64 (bits % 8192 * 8))).setCell ⟨rb, 5, none⟩ (.int .u8 ttl)).setCell ⟨rb, 6, none⟩ (.int .u8 pr)).setCell ⟨rb, 7, none⟩ (.int .u32 src)).setCell ⟨rb, 8, none⟩ (.int .u32 dst)).setCell ⟨rb, 9, none⟩ (.slice A8 m m)) = wz at r9 hx ⊢
  have HROW := Lib.hid r9
  clear r9
  have HX_wz := Lib.hid hx
  clear hx
  refine bodyPost_ret (v := .tuple #[.agg #[.int .u8 tos, .int .u16 ident, .bool df, .bool mf, .int .i64 (bits % 8192 * 8), .int .u8 ttl, .int .u8 pr, .int .u32 src, .int .u32 dst, .slice A8 m m], .nilIface]) ?_ rfl ⟨((((((((((HX_w1.out.trans HX_w2.out).andThen HX_w3.out (fun i hi e => by have := HX_w1.out.size; have := hb_p1; omega)).trans HX_w4.out).andThen HX_w5.out (fun i hi e => by have := ((HX_w1.out.trans HX_w2.out).andThen HX_w3.out (fun i hi e => by have := HX_w1.out.size; have := hb_p1; omega)).size; have := hb_p2; omega)).trans HX_w6.out).trans HX_w7.out).andThen HX_w8.out (fun i hi e => by have := HX_w1.out.size; have := hb_p1; omega)).trans HX_w9.out).trans HX_w10.out).andThen HX_wz.out (fun i hi e => by have := hb_rb; omega)), A8, g1, 20, by rw [HEE.out], by omega, by rw [HPK.out]; show RB wz (fun j => j = g1) (.slice A8 bb.length bb.length) bb; rw [HBL.out]; exact (RB.keep (RB.keep HB8.out (HX_w9.out.trans HX_w10.out) (fun _ _ _ => id)) HX_wz.out (fun k _ hk e => ne_rb_g1.symm (hk.symm.trans e))), fun hne => ⟨HA8.out (by rw [HPK.out] at hne; exact hne), (fun x => (HX_wz.out.frozen (p := ⟨g1, x, none⟩) (show g1 < w10.heap.size by have h0 := HG1.out; have h3 := HX_w3.out.size; have h4 := HX_w4.out.size; have h5 := HX_w5.out.size; have h6 := HX_w6.out.size; have h7 := HX_w7.out.size; have h8 := HX_w8.out.size; have h9 := HX_w9.out.size; have h10 := HX_w10.out.size; omega) ne_rb_g1.symm).trans ((fun x => ((HX_w9.out.trans HX_w10.out).frozen (p := ⟨g1, x, none⟩) (show g1 < w8.heap.size by have h0 := HG1.out; have h3 := HX_w3.out.size; have h4 := HX_w4.out.size; have h5 := HX_w5.out.size; have h6 := HX_w6.out.size; have h7 := HX_w7.out.size; have h8 := HX_w8.out.size; omega) id).trans ((fun x => (HX_w8.out.frozen (p := ⟨g1, x, none⟩) (show g1 < w7.heap.size by have h0 := HG1.out; have h3 := HX_w3.out.size; have h4 := HX_w4.out.size; have h5 := HX_w5.out.size; have h6 := HX_w6.out.size; have h7 := HX_w7.out.size; omega) ne_g1_p1).trans ((fun x => ((((HX_w4.out.andThen HX_w5.out (fun i hi e => by have := hb_p2; omega)).trans HX_w6.out).trans HX_w7.out).frozen (p := ⟨g1, x, none⟩) (show g1 < w3.heap.size by have h0 := HG1.out; have h3 := HX_w3.out.size; omega) id).trans ((fun x => (HX_w3.out.frozen (p := ⟨g1, x, none⟩) (show g1 < w2.heap.size by have h0 := HG1.out; omega) ne_g1_p1).trans (HFZ.out x)) x)) x)) x)) x))⟩⟩
  exact results_cell_row2 (p := 2) (u := 3) rfl _ _ rb 51 #[.int .u8 tos, .int .u16 ident, .bool df, .bool mf, .int .i64 (bits % 8192 * 8), .int .u8 ttl, .int .u8 pr, .int .u32 src, .int .u32 dst, .slice A8 m m] (0, 0) _ _ rfl rfl HROW.out Tryd.underlying51 rfl pk_size
end Go.Proofs.YtfcfpkhcpijkfaaDoor
