/-
  The contract of ipv4's Packet.Bytes. By an AI agent.
-/
import Derived.Test.YtfcfpkhcpijkfaaDoorIpH
namespace Go.Proofs.YtfcfpkhcpijkfaaDoor
open Go.RowKit

theorem or_14 (x : Int) (h0 : 0 ≤ x) (h1 : x < 8192) : Go.bits .or .u16 x 16384 = x + 16384 := by
  have key : (BitVec.ofInt 16 x ||| BitVec.ofInt 16 16384).toNat = x.toNat + 16384 := by
    rw [BitVec.toNat_or, BitVec.toNat_ofInt, BitVec.toNat_ofInt, show (x % ((2 ^ 16 : Nat) : Int)).toNat = x.toNat by omega, show ((16384 : Int) % ((2 ^ 16 : Nat) : Int)).toNat = 2 ^ 14 * 1 by decide, Nat.or_comm, ← Nat.two_pow_add_eq_or_of_lt (by omega)]
    omega
  show IntKind.u16.wrap ((BitVec.ofInt 16 x ||| BitVec.ofInt 16 16384).toNat : Nat) = _
  rw [key, IntKind.wrap_u16]
  omega
theorem or_13 (x : Int) (h0 : 0 ≤ x) (h1 : x < 8192) : Go.bits .or .u16 x 8192 = x + 8192 := by
  have key : (BitVec.ofInt 16 x ||| BitVec.ofInt 16 8192).toNat = x.toNat + 8192 := by
    rw [BitVec.toNat_or, BitVec.toNat_ofInt, BitVec.toNat_ofInt, show (x % ((2 ^ 16 : Nat) : Int)).toNat = x.toNat by omega, show ((8192 : Int) % ((2 ^ 16 : Nat) : Int)).toNat = 2 ^ 13 * 1 by decide, Nat.or_comm, ← Nat.two_pow_add_eq_or_of_lt (by omega)]
    omega
  show IntKind.u16.wrap ((BitVec.ofInt 16 x ||| BitVec.ofInt 16 8192).toNat : Nat) = _
  rw [key, IntKind.wrap_u16]
  omega
theorem or_1413 (x : Int) (h0 : 0 ≤ x) (h1 : x < 8192) : Go.bits .or .u16 (x + 16384) 8192 = x + 16384 + 8192 := by
  have key : (BitVec.ofInt 16 (x + 16384) ||| BitVec.ofInt 16 8192).toNat = x.toNat + 16384 + 8192 := by
    rw [BitVec.toNat_or, BitVec.toNat_ofInt, BitVec.toNat_ofInt, show ((x + 16384) % ((2 ^ 16 : Nat) : Int)).toNat = 2 ^ 14 * 1 + x.toNat by omega, show ((8192 : Int) % ((2 ^ 16 : Nat) : Int)).toNat = 2 ^ 13 * 1 by decide,
      Nat.two_pow_add_eq_or_of_lt (by omega), Nat.or_assoc, Nat.or_comm x.toNat, ← Nat.two_pow_add_eq_or_of_lt (i := 13) (by omega), ← Nat.two_pow_add_eq_or_of_lt (i := 14) (by omega)]
    omega
  show IntKind.u16.wrap ((BitVec.ofInt 16 (x + 16384) ||| BitVec.ofInt 16 8192).toNat : Nat) = _
  rw [key, IntKind.wrap_u16]
  omega
set_option maxRecDepth 100000 in
set_option maxHeartbeats 1000000 in
theorem pbytes_bad (tos ident : Int) (df mf : Bool) (off ttl pr src dst : Int) (b : List UInt8) (A : Option Addr) (c : Nat) (w : World) (hn : b.length ≤ 1000000) (hbad : (⟨tos, ident, df, mf, off, ttl, pr, src, dst, b⟩ : Pk).right ≠ 0) :
    Calls Tryd.prog 29 #[.agg #[.int .u8 tos, .int .u16 ident, .bool df, .bool mf, .int .i64 off, .int .u8 ttl, .int .u8 pr, .int .u32 src, .int .u32 dst, .slice A b.length c]] w fun e w' => Ex (fun _ => False) w w' ∧ ∃ v, e = .returned (.tuple #[.slice none 0 0, v]) ∧ EC w' (fun j => w.heap.size ≤ j) [lay5] v (⟨tos, ident, df, mf, off, ttl, pr, src, dst, b⟩ : Pk).right := by
  have HBAD := Lib.hid hbad
  clear hbad
  go_enter Tryd.func29, Tryd.ntmps29
  go_upto_region 1 with fail
  have hx : Ex (fun _ => False) w (w.alloc (.cells #[.int .u8 tos, .int .u16 ident, .bool df, .bool mf, .int .i64 off, .int .u8 ttl, .int .u8 pr, .int .u32 src, .int .u32 dst, .slice A b.length c] 51)) := (Ex.refl _ w).alloc _
  have hb : (w.alloc (.cells #[.int .u8 tos, .int .u16 ident, .bool df, .bool mf, .int .i64 off, .int .u8 ttl, .int .u8 pr, .int .u32 src, .int .u32 dst, .slice A b.length c] 51)).heap[w.heap.size]? = some (.cells #[.int .u8 tos, .int .u16 ident, .bool df, .bool mf, .int .i64 off, .int .u8 ttl, .int .u8 pr, .int .u32 src, .int .u32 dst, .slice A b.length c] 51) := heap_alloc_new w _
  obtain ⟨pb0, hpb0⟩ : ∃ pb0, pb0 = w.heap.size := ⟨_, rfl⟩
  have hb_pb0 : w.heap.size ≤ pb0 := by omega
  rw [← hpb0] at hb
  try simp only [← hpb0]
  generalize w.alloc (.cells #[.int .u8 tos, .int .u16 ident, .bool df, .bool mf, .int .i64 off, .int .u8 ttl, .int .u8 pr, .int .u32 src, .int .u32 dst, .slice A b.length c] 51) = w1 at hx hb ⊢
  clear hpb0
  have HX_w1 := Lib.hid hx
  clear hx
  have B_pb0 := Lib.hid hb
  clear hb
  have cpb00 := row_cell (k := 0) (v := .int .u8 tos) B_pb0.out rfl
  have cpb01 := row_cell (k := 1) (v := .int .u16 ident) B_pb0.out rfl
  have cpb02 := row_cell (k := 2) (v := .bool df) B_pb0.out rfl
  have cpb03 := row_cell (k := 3) (v := .bool mf) B_pb0.out rfl
  have cpb04 := row_cell (k := 4) (v := .int .i64 off) B_pb0.out rfl
  have cpb05 := row_cell (k := 5) (v := .int .u8 ttl) B_pb0.out rfl
  have cpb06 := row_cell (k := 6) (v := .int .u8 pr) B_pb0.out rfl
  have cpb07 := row_cell (k := 7) (v := .int .u32 src) B_pb0.out rfl
  have cpb08 := row_cell (k := 8) (v := .int .u32 dst) B_pb0.out rfl
  have cpb09 := row_cell (k := 9) (v := .slice A b.length c) B_pb0.out rfl
  have hz1 := HX_w1.out.size
  go_wp2_with fail
  refine (right_any ⟨tos, ident, df, mf, off, ttl, pr, src, dst, b⟩ A c _ (by show b.length ≤ _; omega)).mono ?_
  rintro e w2 ⟨hx, hcase⟩
  have HX2 := Lib.hid (HX_w1.out.trans hx)
  obtain ⟨v, rfl, he⟩ : ∃ v, e = .returned v ∧ EC w2 (fun j => w1.heap.size ≤ j) [lay5] v (⟨tos, ident, df, mf, off, ttl, pr, src, dst, b⟩ : Pk).right := by
    rcases hcase with ⟨h, _⟩ | ⟨_, h⟩
    · exact absurd h HBAD.out
    · exact h
  obtain ⟨ty, y, rfl⟩ := he.shape
  have HE := Lib.hid he
  clear hx hcase he cpb00 cpb01 cpb02 cpb03 cpb04 cpb05 cpb06 cpb07 cpb08 cpb09
  go_wp2_with fail
  go_ret2
  exact ⟨HX2.out, _, rfl, EC.mono (fun j hj => by omega) HE.out⟩
set_option maxRecDepth 100000 in
set_option maxHeartbeats 4000000 in
theorem pbytes_ff (P : Nat → Prop) (tos ident : Int) (off ttl pr src dst : Int) (b : List UInt8) (A : Option Addr) (c : Nat) (w : World) (ok : Pk.ok ⟨tos, ident, false, false, off, ttl, pr, src, dst, b⟩) (hr : RB w P (.slice A b.length c) b) (hn : b.length ≤ 1000000) (hright : (⟨tos, ident, false, false, off, ttl, pr, src, dst, b⟩ : Pk).right = 0) :
    Calls Tryd.prog 29 #[.agg #[.int .u8 tos, .int .u16 ident, .bool false, .bool false, .int .i64 off, .int .u8 ttl, .int .u8 pr, .int .u32 src, .int .u32 dst, .slice A b.length c]] w fun e w' => Ex (fun _ => False) w w' ∧ ∃ A' c', e = .returned (.tuple #[.slice (some A') (20 + b.length) c', .nilIface]) ∧ OB w' w.heap.size (.slice (some A') (20 + b.length) c') (pb (⟨tos, ident, false, false, off, ttl, pr, src, dst, b⟩ : Pk)) := by
  obtain ⟨i0, hi, hz0, hz1, hz2⟩ := info_parts Tryd.info5
  obtain ⟨k1, k2, _, _, k5⟩ := Pk.right_zero hright
  obtain ⟨o0, o1, _, o3, o4, o5, o6⟩ := ok
  simp only at k1 k2 k5 o0 o1 o3 o4 o5 o6
  obtain ⟨o00, o01⟩ := o0
  obtain ⟨o10, o11⟩ := o1
  obtain ⟨o30, o31⟩ := o3
  obtain ⟨o40, o41⟩ := o4
  obtain ⟨o50, o51⟩ := o5
  obtain ⟨o60, o61⟩ := o6
  have k6 : off ≤ 65515 := by omega
  have k7 : (b.length : Int) ≤ 65515 := by omega
  have K2 := Lib.hid k2
  have hbits : (⟨tos, ident, false, false, off, ttl, pr, src, dst, b⟩ : Pk).bits = off / 8 := by show off / 8 + 0 + 0 = off / 8; omega
  have HBITS := Lib.hid hbits
  have HRIGHT := Lib.hid hright
  have j1 := or_14 (off / 8) (by omega) (by omega)
  have j2 := or_13 (off / 8) (by omega) (by omega)
  have j3 := or_1413 (off / 8) (by omega) (by omega)
  clear k2 hbits hright
  go_enter Tryd.func29, Tryd.ntmps29
  go_upto_region 1 with fail
  have HR := Lib.hid hr
  clear hr
  have hx : Ex (fun _ => False) w (w.alloc (.cells #[.int .u8 tos, .int .u16 ident, .bool false, .bool false, .int .i64 off, .int .u8 ttl, .int .u8 pr, .int .u32 src, .int .u32 dst, .slice A b.length c] 51)) := (Ex.refl _ w).alloc _
  have hb : (w.alloc (.cells #[.int .u8 tos, .int .u16 ident, .bool false, .bool false, .int .i64 off, .int .u8 ttl, .int .u8 pr, .int .u32 src, .int .u32 dst, .slice A b.length c] 51)).heap[w.heap.size]? = some (.cells #[.int .u8 tos, .int .u16 ident, .bool false, .bool false, .int .i64 off, .int .u8 ttl, .int .u8 pr, .int .u32 src, .int .u32 dst, .slice A b.length c] 51) := heap_alloc_new w _
  obtain ⟨pb0, hpb0⟩ : ∃ pb0, pb0 = w.heap.size := ⟨_, rfl⟩
  have hb_pb0 : w.heap.size ≤ pb0 := by omega
  rw [← hpb0] at hb
  try simp only [← hpb0]
  generalize w.alloc (.cells #[.int .u8 tos, .int .u16 ident, .bool false, .bool false, .int .i64 off, .int .u8 ttl, .int .u8 pr, .int .u32 src, .int .u32 dst, .slice A b.length c] 51) = w1 at hx hb ⊢
  clear hpb0
  have HX_w1 := Lib.hid hx
  clear hx
  have B_pb0 := Lib.hid hb
  clear hb
  have cpb00 := row_cell (k := 0) (v := .int .u8 tos) B_pb0.out rfl
  have cpb01 := row_cell (k := 1) (v := .int .u16 ident) B_pb0.out rfl
  have cpb02 := row_cell (k := 2) (v := .bool false) B_pb0.out rfl
  have cpb03 := row_cell (k := 3) (v := .bool false) B_pb0.out rfl
  have cpb04 := row_cell (k := 4) (v := .int .i64 off) B_pb0.out rfl
  have cpb05 := row_cell (k := 5) (v := .int .u8 ttl) B_pb0.out rfl
  have cpb06 := row_cell (k := 6) (v := .int .u8 pr) B_pb0.out rfl
  have cpb07 := row_cell (k := 7) (v := .int .u32 src) B_pb0.out rfl
  have cpb08 := row_cell (k := 8) (v := .int .u32 dst) B_pb0.out rfl
  have cpb09 := row_cell (k := 9) (v := .slice A b.length c) B_pb0.out rfl
  go_wp2_with fail
  refine (right_any (⟨tos, ident, false, false, off, ttl, pr, src, dst, b⟩ : Pk) A c _ (by show b.length ≤ _; omega)).mono ?_
  rintro e w2 ⟨hx, hcase⟩
  obtain rfl : e = .returned .nilIface := by
    rcases hcase with ⟨_, h⟩ | ⟨h, _⟩
    · exact h
    · exact absurd HRIGHT.out h
  clear hcase cpb00 cpb01 cpb02 cpb03 cpb04 cpb05 cpb06 cpb07 cpb08 cpb09
  have HX_w2 := Lib.hid hx
  clear hx
  replace B_pb0 := Lib.hid ((HX_w2.out.block pb0 (row_lt B_pb0.out) id).trans B_pb0.out)
  have cpb00 := row_cell (k := 0) (v := .int .u8 tos) B_pb0.out rfl
  have cpb01 := row_cell (k := 1) (v := .int .u16 ident) B_pb0.out rfl
  have cpb02 := row_cell (k := 2) (v := .bool false) B_pb0.out rfl
  have cpb03 := row_cell (k := 3) (v := .bool false) B_pb0.out rfl
  have cpb04 := row_cell (k := 4) (v := .int .i64 off) B_pb0.out rfl
  have cpb05 := row_cell (k := 5) (v := .int .u8 ttl) B_pb0.out rfl
  have cpb06 := row_cell (k := 6) (v := .int .u8 pr) B_pb0.out rfl
  have cpb07 := row_cell (k := 7) (v := .int .u32 src) B_pb0.out rfl
  have cpb08 := row_cell (k := 8) (v := .int .u32 dst) B_pb0.out rfl
  have cpb09 := row_cell (k := 9) (v := .slice A b.length c) B_pb0.out rfl
  go_upto_region 5 with fail
  have hx : Ex (fun _ => False) w2 (w2.alloc (.cells #[.int .u8 69, .int .u8 tos, .int .u16 (20 + (b.length : Int)), .int .u16 ident, .int .u16 (off / 8), .int .u8 ttl, .int .u8 pr, .int .u16 0, .int .u32 src, .int .u32 dst] 97)) := (Ex.refl _ w2).alloc _
  have hb : (w2.alloc (.cells #[.int .u8 69, .int .u8 tos, .int .u16 (20 + (b.length : Int)), .int .u16 ident, .int .u16 (off / 8), .int .u8 ttl, .int .u8 pr, .int .u16 0, .int .u32 src, .int .u32 dst] 97)).heap[w2.heap.size]? = some (.cells #[.int .u8 69, .int .u8 tos, .int .u16 (20 + (b.length : Int)), .int .u16 ident, .int .u16 (off / 8), .int .u8 ttl, .int .u8 pr, .int .u16 0, .int .u32 src, .int .u32 dst] 97) := heap_alloc_new w2 _
  obtain ⟨hb0, hhb0⟩ : ∃ hb0, hb0 = w2.heap.size := ⟨_, rfl⟩
  have hb_hb0 : w2.heap.size ≤ hb0 := by omega
  rw [← hhb0] at hb
  try simp only [← hhb0]
  generalize w2.alloc (.cells #[.int .u8 69, .int .u8 tos, .int .u16 (20 + (b.length : Int)), .int .u16 ident, .int .u16 (off / 8), .int .u8 ttl, .int .u8 pr, .int .u16 0, .int .u32 src, .int .u32 dst] 97) = w3 at hx hb ⊢
  clear hhb0
  have HX_w3 := Lib.hid hx
  clear hx
  have B_hb0 := Lib.hid hb
  clear hb
  clear cpb00 cpb01 cpb02 cpb03 cpb04 cpb05 cpb06 cpb07 cpb08 cpb09
  have cpb02 := row_cell (k := 2) (v := .bool false) ((HX_w3.out.block pb0 (row_lt B_pb0.out) id).trans B_pb0.out) rfl
  go_upto_region 7 with fail
  clear cpb02
  have cpb03 := row_cell (k := 3) (v := .bool false) ((HX_w3.out.block pb0 (row_lt B_pb0.out) id).trans B_pb0.out) rfl
  go_upto_region 9 with fail
  clear cpb03
  clear j1 j2 j3
  have chb00 := row_cell (k := 0) (v := .int .u8 69) B_hb0.out rfl
  have chb01 := row_cell (k := 1) (v := .int .u8 tos) B_hb0.out rfl
  have chb02 := row_cell (k := 2) (v := .int .u16 (20 + (b.length : Int))) B_hb0.out rfl
  have chb03 := row_cell (k := 3) (v := .int .u16 ident) B_hb0.out rfl
  have chb04 := row_cell (k := 4) (v := .int .u16 (off / 8)) B_hb0.out rfl
  have chb05 := row_cell (k := 5) (v := .int .u8 ttl) B_hb0.out rfl
  have chb06 := row_cell (k := 6) (v := .int .u8 pr) B_hb0.out rfl
  have chb07 := row_cell (k := 7) (v := .int .u16 0) B_hb0.out rfl
  have chb08 := row_cell (k := 8) (v := .int .u32 src) B_hb0.out rfl
  have chb09 := row_cell (k := 9) (v := .int .u32 dst) B_hb0.out rfl
  go_wp2_with fail
  refine (hbytes_any 69 tos (20 + (b.length : Int)) ident (off / 8) ttl pr 0 src dst ⟨by decide, by decide⟩ ⟨o00, o01⟩ ⟨by omega, by omega⟩ ⟨o10, o11⟩ ⟨by omega, by omega⟩ ⟨o30, o31⟩ ⟨o40, o41⟩ ⟨by omega, by omega⟩ ⟨o50, o51⟩ ⟨o60, o61⟩ w3).mono ?_
  rintro e w6 ⟨A6, c6, rfl, ho, hx⟩
  have HX_w6 := Lib.hid hx
  clear hx
  have HO6 := Lib.hid ho
  clear ho chb00 chb01 chb02 chb03 chb04 chb05 chb06 chb07 chb08 chb09
  obtain ⟨s, hs, hs1⟩ : ∃ s : Nat, s = (⟨tos, ident, false, false, off, ttl, pr, src, dst, b⟩ : Pk).sum ∧ s ≤ 65535 := ⟨_, rfl, by have := Pk.sum_le (⟨tos, ident, false, false, off, ttl, pr, src, dst, b⟩ : Pk); omega⟩
  have hs2 : su ((⟨69, tos, 20 + (b.length : Int), ident, off / 8, ttl, pr, 0, src, dst⟩ : Hd)).bytes = s := by
    rw [hs, ← HBITS.out]
    rfl
  have HS := Lib.hid hs
  clear hs
  go_wp2_with fail
  refine (sum1_any _ _ _ w6 _ _ rfl HO6.out.rb.any (by rw [Hd.bytes_len]; omega)).mono ?_
  rintro e w7 ⟨rfl, hw7⟩
  rw [hs2]
  have hx : Ex (fun _ => False) w6 w7 := by rw [← hw7]; exact (Ex.refl _ w6).alloc _
  try rw [hw7]
  clear hs2 hw7
  have HX_w7 := Lib.hid hx
  clear hx
  have chb07 := row_cell (k := 7) (v := .int .u16 0) (((HX_w6.out.trans HX_w7.out).block hb0 (row_lt B_hb0.out) id).trans B_hb0.out) rfl
  have fhb07 := row_frozen (((HX_w6.out.trans HX_w7.out).block hb0 (row_lt B_hb0.out) id).trans B_hb0.out) 7
  go_upto_region 10 with fail
  replace B_hb0 := Lib.hid (((HX_w6.out.trans HX_w7.out).block hb0 (row_lt B_hb0.out) id).trans B_hb0.out)
  have hb : (w7.setCell ⟨hb0, 7, none⟩ (.int .u16 (s : Int))).heap[hb0]? = some (.cells #[.int .u8 69, .int .u8 tos, .int .u16 (20 + (b.length : Int)), .int .u16 ident, .int .u16 (off / 8), .int .u8 ttl, .int .u8 pr, .int .u16 (s : Int), .int .u32 src, .int .u32 dst] 97) := (row_set B_hb0.out 7 (.int .u16 (s : Int)))
  have hx : Ex (fun j => j = hb0) w7 (w7.setCell ⟨hb0, 7, none⟩ (.int .u16 (s : Int))) := ((Ex.refl (fun j => j = hb0) w7).setCell (p := ⟨hb0, 7, none⟩) (.inl rfl) (.int .u16 (s : Int)))
  clear chb07 fhb07
  generalize (w7.setCell ⟨hb0, 7, none⟩ (.int .u16 (s : Int))) = w8 at hx hb ⊢
  clear B_hb0
  have HX_w8 := Lib.hid hx
  clear hx
  have B_hb0 := Lib.hid hb
  clear hb
  have chb00 := row_cell (k := 0) (v := .int .u8 69) B_hb0.out rfl
  have chb01 := row_cell (k := 1) (v := .int .u8 tos) B_hb0.out rfl
  have chb02 := row_cell (k := 2) (v := .int .u16 (20 + (b.length : Int))) B_hb0.out rfl
  have chb03 := row_cell (k := 3) (v := .int .u16 ident) B_hb0.out rfl
  have chb04 := row_cell (k := 4) (v := .int .u16 (off / 8)) B_hb0.out rfl
  have chb05 := row_cell (k := 5) (v := .int .u8 ttl) B_hb0.out rfl
  have chb06 := row_cell (k := 6) (v := .int .u8 pr) B_hb0.out rfl
  have chb07 := row_cell (k := 7) (v := .int .u16 (s : Int)) B_hb0.out rfl
  have chb08 := row_cell (k := 8) (v := .int .u32 src) B_hb0.out rfl
  have chb09 := row_cell (k := 9) (v := .int .u32 dst) B_hb0.out rfl
  have cpb09 := row_cell (k := 9) (v := .slice A b.length c) (((((HX_w3.out.trans HX_w6.out).trans HX_w7.out).andThen HX_w8.out (fun i hi e => by have := hb_hb0; omega)).block pb0 (row_lt B_pb0.out) id).trans B_pb0.out) rfl
  have hS0 : Ex (fun _ => False) w8 w8.drew := (Ex.refl _ w8).drew
  have hrb := (RB.keep HR.out (((((HX_w1.out.trans HX_w2.out).trans HX_w3.out).trans HX_w6.out).trans HX_w7.out).andThen HX_w8.out (fun i hi e => by have := (HX_w1.out.trans HX_w2.out).size; have := hb_hb0; omega)) (fun _ _ _ => id))
  have HRB := Lib.hid hrb
  clear hrb
  have hlen : (⟨69, tos, 20 + (b.length : Int), ident, off / 8, ttl, pr, (s : Int), src, dst⟩ : Hd).bytes.length = 20 := rfl
  have HLEN := Lib.hid hlen
  clear hlen
  refine wp_region_held_drew (S := fun W => Ex (fun _ => False) w8 W) (by kernel_rfl) hS0 (fun _ => ?_)
  refine wpAnyH_take (i := 0) (oi := { dst := some 50, op := Go.Op.load 97 (Go.Operand.tmp 5), type := 97, pos := "ipv4.go:142", after := #[], guard := none }) (v := ?v1) rfl (by kernel_rfl) (by kernel_rfl) (by kernel_rfl) (fun _ _ _ h => h) (Or.inl ⟨by rfl, ?hy1⟩) (by assumption) ?rest1
  case hy1 => (intro w hSw; (try dsimp only at hSw); have e0 := hSw.cell chb00 id; have e1 := hSw.cell chb01 id; have e2 := hSw.cell chb02 id; have e3 := hSw.cell chb03 id; have e4 := hSw.cell chb04 id; have e5 := hSw.cell chb05 id; have e6 := hSw.cell chb06 id; have e7 := hSw.cell chb07 id; have e8 := hSw.cell chb08 id; have e9 := hSw.cell chb09 id; have e10 := hSw.cell cpb09 id; go_simp <;> with_reducible rfl)
  try simp only [Act.put, List.setIfInBounds_toArray, List.set_cons_zero, List.set_cons_succ]
  refine wpAnyH_take (i := 2) (oi := { dst := some 52, op := Go.Op.fieldAddr 51 (Go.Operand.tmp 1) 9, type := 0, pos := "ipv4.go:142", after := #[], guard := none }) (v := ?v2) rfl (by kernel_rfl) (by kernel_rfl) (by kernel_rfl) (fun _ _ _ h => h) (Or.inl ⟨by rfl, ?hy2⟩) (by assumption) ?rest2
  case hy2 => (intro w hSw; (try dsimp only at hSw); have e0 := hSw.cell chb00 id; have e1 := hSw.cell chb01 id; have e2 := hSw.cell chb02 id; have e3 := hSw.cell chb03 id; have e4 := hSw.cell chb04 id; have e5 := hSw.cell chb05 id; have e6 := hSw.cell chb06 id; have e7 := hSw.cell chb07 id; have e8 := hSw.cell chb08 id; have e9 := hSw.cell chb09 id; have e10 := hSw.cell cpb09 id; go_simp <;> with_reducible rfl)
  try simp only [Act.put, List.setIfInBounds_toArray, List.set_cons_zero, List.set_cons_succ]
  refine wpAnyH_take (i := 3) (oi := { dst := some 53, op := Go.Op.load 22 (Go.Operand.tmp 52), type := 22, pos := "ipv4.go:142", after := #[{ on := 2, ground := Go.Ground.data }], guard := none }) (v := ?v3) rfl (by kernel_rfl) (by kernel_rfl) (by kernel_rfl) (fun _ _ _ h => h) (Or.inl ⟨by rfl, ?hy3⟩) (by assumption) ?rest3
  case hy3 => (intro w hSw; (try dsimp only at hSw); have e0 := hSw.cell chb00 id; have e1 := hSw.cell chb01 id; have e2 := hSw.cell chb02 id; have e3 := hSw.cell chb03 id; have e4 := hSw.cell chb04 id; have e5 := hSw.cell chb05 id; have e6 := hSw.cell chb06 id; have e7 := hSw.cell chb07 id; have e8 := hSw.cell chb08 id; have e9 := hSw.cell chb09 id; have e10 := hSw.cell cpb09 id; go_simp <;> with_reducible rfl)
  try simp only [Act.put, List.setIfInBounds_toArray, List.set_cons_zero, List.set_cons_succ]
  refine wpAnyH_ready (rs := [1]) (by kernel_rfl) (by simp) ?_
  refine AllReadyH.cons (o := { dst := some 51, op := Go.Op.call { callee := Go.Callee.value (Go.Operand.func 56), args := #[Go.Operand.tmp 50], argTypes := #[97] }, type := 22, pos := "ipv4.go:142", after := #[{ on := 0, ground := Go.Ground.data }], guard := none }) rfl (fun K hK => ?_) AllReadyH.nil
  go_simp
  refine (hbytes_any 69 tos (20 + (b.length : Int)) ident (off / 8) ttl pr (s : Int) src dst ⟨by decide, by decide⟩ ⟨o00, o01⟩ ⟨by omega, by omega⟩ ⟨o10, o11⟩ ⟨by omega, by omega⟩ ⟨o30, o31⟩ ⟨o40, o41⟩ ⟨by omega, by omega⟩ ⟨o50, o51⟩ ⟨o60, o61⟩ _).mono ?_
  rintro e w9 ⟨A9, c9, rfl, ho9, hx9⟩
  have hS1 := hS0.trans hx9
  have HO9 := Lib.hid (ho9.mono (show w8.heap.size ≤ w8.drew.heap.size from Nat.le_refl _))
  clear ho9
  refine hK.out _ _ hS1 (fun _ => ?_)
  refine wpAnyH_ready (rs := [4]) (by kernel_rfl) (by simp) ?_
  refine AllReadyH.cons (o := { dst := some 54, op := Go.Op.call { callee := Go.Callee.builtin Go.Builtin.append, args := #[Go.Operand.tmp 51, Go.Operand.tmp 53], argTypes := #[22, 22] }, type := 22, pos := "ipv4.go:142", after := #[{ on := 1, ground := Go.Ground.data }, { on := 3, ground := Go.Ground.data }, { on := 1, ground := Go.Ground.chain }], guard := none }) rfl (fun K hK => ?_) AllReadyH.nil
  refine step_append_ob i0 22 Tryd.underlying22 hi hz0 hz1 hz2 rfl (.tmp 51) (.tmp 53) rfl w8.heap.size (.slice (some A9) 20 c9) (⟨69, tos, 20 + (b.length : Int), ident, off / 8, ttl, pr, (s : Int), src, dst⟩ : Hd).bytes rfl P (.slice A b.length c) b rfl ?o1 ?o2 ?o3 ?o4 ?_
  case o1 => exact HO9.out
  case o2 => exact HRB.out.keep hS1 (fun _ _ _ => id)
  case o3 => rw [HLEN.out]; omega
  case o4 => exact hS1.size
  intro A2 c2 w10 ho3 hg3 hn3 hb3
  try simp only [Act.put, List.setIfInBounds_toArray, List.set_cons_zero, List.set_cons_succ]
  have hS2 := hS1.grown hg3 (fun k hk => .inr (HO9.out.lt k hk).1)
  refine hK.out _ _ hS2 (fun _ => ?_)
  refine wpAnyH_take (i := 5) (oi := { dst := some 2, op := Go.Op.assign (Go.Operand.tmp 54), type := 22, pos := "ipv4.go:142", after := #[{ on := 4, ground := Go.Ground.data }, { on := 4, ground := Go.Ground.chain }, { on := 0, ground := Go.Ground.phase }, { on := 1, ground := Go.Ground.phase }, { on := 2, ground := Go.Ground.phase }, { on := 3, ground := Go.Ground.phase }, { on := 4, ground := Go.Ground.phase }], guard := none }) (v := ?v4) rfl (by kernel_rfl) (by kernel_rfl) (by kernel_rfl) (fun _ _ _ h => h) (Or.inl ⟨by rfl, ?hy4⟩) (by assumption) ?rest4
  case hy4 => (intro w hSw; (try dsimp only at hSw); have e0 := hSw.cell chb00 id; have e1 := hSw.cell chb01 id; have e2 := hSw.cell chb02 id; have e3 := hSw.cell chb03 id; have e4 := hSw.cell chb04 id; have e5 := hSw.cell chb05 id; have e6 := hSw.cell chb06 id; have e7 := hSw.cell chb07 id; have e8 := hSw.cell chb08 id; have e9 := hSw.cell chb09 id; have e10 := hSw.cell cpb09 id; go_simp <;> with_reducible rfl)
  try simp only [Act.put, List.setIfInBounds_toArray, List.set_cons_zero, List.set_cons_succ]
  refine wpAnyH_take (i := 6) (oi := { dst := some 3, op := Go.Op.assign (Go.Operand.const Go.Value.nilIface), type := 29, pos := "ipv4.go:142", after := #[{ on := 5, ground := Go.Ground.chain }, { on := 0, ground := Go.Ground.phase }, { on := 1, ground := Go.Ground.phase }, { on := 2, ground := Go.Ground.phase }, { on := 3, ground := Go.Ground.phase }, { on := 4, ground := Go.Ground.phase }, { on := 5, ground := Go.Ground.phase }], guard := none }) (v := ?v5) rfl (by kernel_rfl) (by kernel_rfl) (by kernel_rfl) (fun _ _ _ h => h) (Or.inl ⟨by rfl, ?hy5⟩) (by assumption) ?rest5
  case hy5 => (intro w hSw; (try dsimp only at hSw); have e0 := hSw.cell chb00 id; have e1 := hSw.cell chb01 id; have e2 := hSw.cell chb02 id; have e3 := hSw.cell chb03 id; have e4 := hSw.cell chb04 id; have e5 := hSw.cell chb05 id; have e6 := hSw.cell chb06 id; have e7 := hSw.cell chb07 id; have e8 := hSw.cell chb08 id; have e9 := hSw.cell chb09 id; have e10 := hSw.cell cpb09 id; go_simp <;> with_reducible rfl)
  try simp only [Act.put, List.setIfInBounds_toArray, List.set_cons_zero, List.set_cons_succ]
  refine wpAnyH_done (by kernel_rfl) ?_ _
  rw [HLEN.out] at ho3
  cases A2 with
  | none => exact absurd (hn3.1 rfl).1 (by simp)
  | some A2 =>
    have HO := Lib.hid ho3
    have HXX := Lib.hid ((((((HX_w1.out.trans HX_w2.out).trans HX_w3.out).trans HX_w6.out).trans HX_w7.out).andThen HX_w8.out (fun i hi e => by have := (HX_w1.out.trans HX_w2.out).size; have := hb_hb0; omega)).trans hS2)
    have hz8 := (((((HX_w1.out.trans HX_w2.out).trans HX_w3.out).trans HX_w6.out).trans HX_w7.out).andThen HX_w8.out (fun i hi e => by have := (HX_w1.out.trans HX_w2.out).size; have := hb_hb0; omega)).size
    clear ho3 hg3 hn3 hb3 hS0 hS1 hS2 hx9 chb00 chb01 chb02 chb03 chb04 chb05 chb06 chb07 chb08 chb09 cpb09
    go_wp2_with fail
    go_ret2
    have e : pb (⟨tos, ident, false, false, off, ttl, pr, src, dst, b⟩ : Pk) = (⟨69, tos, 20 + (b.length : Int), ident, off / 8, ttl, pr, (s : Int), src, dst⟩ : Hd).bytes ++ b := by
      rw [HS.out, ← HBITS.out]
      rfl
    rw [e]
    exact ⟨HXX.out, A2, c2, rfl, HO.out.mono hz8⟩
set_option maxRecDepth 100000 in
set_option maxHeartbeats 4000000 in
theorem pbytes_ft (P : Nat → Prop) (tos ident : Int) (off ttl pr src dst : Int) (b : List UInt8) (A : Option Addr) (c : Nat) (w : World) (ok : Pk.ok ⟨tos, ident, false, true, off, ttl, pr, src, dst, b⟩) (hr : RB w P (.slice A b.length c) b) (hn : b.length ≤ 1000000) (hright : (⟨tos, ident, false, true, off, ttl, pr, src, dst, b⟩ : Pk).right = 0) :
    Calls Tryd.prog 29 #[.agg #[.int .u8 tos, .int .u16 ident, .bool false, .bool true, .int .i64 off, .int .u8 ttl, .int .u8 pr, .int .u32 src, .int .u32 dst, .slice A b.length c]] w fun e w' => Ex (fun _ => False) w w' ∧ ∃ A' c', e = .returned (.tuple #[.slice (some A') (20 + b.length) c', .nilIface]) ∧ OB w' w.heap.size (.slice (some A') (20 + b.length) c') (pb (⟨tos, ident, false, true, off, ttl, pr, src, dst, b⟩ : Pk)) := by
  obtain ⟨i0, hi, hz0, hz1, hz2⟩ := info_parts Tryd.info5
  obtain ⟨k1, k2, _, _, k5⟩ := Pk.right_zero hright
  obtain ⟨o0, o1, _, o3, o4, o5, o6⟩ := ok
  simp only at k1 k2 k5 o0 o1 o3 o4 o5 o6
  obtain ⟨o00, o01⟩ := o0
  obtain ⟨o10, o11⟩ := o1
  obtain ⟨o30, o31⟩ := o3
  obtain ⟨o40, o41⟩ := o4
  obtain ⟨o50, o51⟩ := o5
  obtain ⟨o60, o61⟩ := o6
  have k6 : off ≤ 65515 := by omega
  have k7 : (b.length : Int) ≤ 65515 := by omega
  have K2 := Lib.hid k2
  have hbits : (⟨tos, ident, false, true, off, ttl, pr, src, dst, b⟩ : Pk).bits = off / 8 + 8192 := by show off / 8 + 0 + 8192 = off / 8 + 8192; omega
  have HBITS := Lib.hid hbits
  have HRIGHT := Lib.hid hright
  have j1 := or_14 (off / 8) (by omega) (by omega)
  have j2 := or_13 (off / 8) (by omega) (by omega)
  have j3 := or_1413 (off / 8) (by omega) (by omega)
  clear k2 hbits hright
  go_enter Tryd.func29, Tryd.ntmps29
  go_upto_region 1 with fail
  have HR := Lib.hid hr
  clear hr
  have hx : Ex (fun _ => False) w (w.alloc (.cells #[.int .u8 tos, .int .u16 ident, .bool false, .bool true, .int .i64 off, .int .u8 ttl, .int .u8 pr, .int .u32 src, .int .u32 dst, .slice A b.length c] 51)) := (Ex.refl _ w).alloc _
  have hb : (w.alloc (.cells #[.int .u8 tos, .int .u16 ident, .bool false, .bool true, .int .i64 off, .int .u8 ttl, .int .u8 pr, .int .u32 src, .int .u32 dst, .slice A b.length c] 51)).heap[w.heap.size]? = some (.cells #[.int .u8 tos, .int .u16 ident, .bool false, .bool true, .int .i64 off, .int .u8 ttl, .int .u8 pr, .int .u32 src, .int .u32 dst, .slice A b.length c] 51) := heap_alloc_new w _
  obtain ⟨pb0, hpb0⟩ : ∃ pb0, pb0 = w.heap.size := ⟨_, rfl⟩
  have hb_pb0 : w.heap.size ≤ pb0 := by omega
  rw [← hpb0] at hb
  try simp only [← hpb0]
  generalize w.alloc (.cells #[.int .u8 tos, .int .u16 ident, .bool false, .bool true, .int .i64 off, .int .u8 ttl, .int .u8 pr, .int .u32 src, .int .u32 dst, .slice A b.length c] 51) = w1 at hx hb ⊢
  clear hpb0
  have HX_w1 := Lib.hid hx
  clear hx
  have B_pb0 := Lib.hid hb
  clear hb
  have cpb00 := row_cell (k := 0) (v := .int .u8 tos) B_pb0.out rfl
  have cpb01 := row_cell (k := 1) (v := .int .u16 ident) B_pb0.out rfl
  have cpb02 := row_cell (k := 2) (v := .bool false) B_pb0.out rfl
  have cpb03 := row_cell (k := 3) (v := .bool true) B_pb0.out rfl
  have cpb04 := row_cell (k := 4) (v := .int .i64 off) B_pb0.out rfl
  have cpb05 := row_cell (k := 5) (v := .int .u8 ttl) B_pb0.out rfl
  have cpb06 := row_cell (k := 6) (v := .int .u8 pr) B_pb0.out rfl
  have cpb07 := row_cell (k := 7) (v := .int .u32 src) B_pb0.out rfl
  have cpb08 := row_cell (k := 8) (v := .int .u32 dst) B_pb0.out rfl
  have cpb09 := row_cell (k := 9) (v := .slice A b.length c) B_pb0.out rfl
  go_wp2_with fail
  refine (right_any (⟨tos, ident, false, true, off, ttl, pr, src, dst, b⟩ : Pk) A c _ (by show b.length ≤ _; omega)).mono ?_
  rintro e w2 ⟨hx, hcase⟩
  obtain rfl : e = .returned .nilIface := by
    rcases hcase with ⟨_, h⟩ | ⟨h, _⟩
    · exact h
    · exact absurd HRIGHT.out h
  clear hcase cpb00 cpb01 cpb02 cpb03 cpb04 cpb05 cpb06 cpb07 cpb08 cpb09
  have HX_w2 := Lib.hid hx
  clear hx
  replace B_pb0 := Lib.hid ((HX_w2.out.block pb0 (row_lt B_pb0.out) id).trans B_pb0.out)
  have cpb00 := row_cell (k := 0) (v := .int .u8 tos) B_pb0.out rfl
  have cpb01 := row_cell (k := 1) (v := .int .u16 ident) B_pb0.out rfl
  have cpb02 := row_cell (k := 2) (v := .bool false) B_pb0.out rfl
  have cpb03 := row_cell (k := 3) (v := .bool true) B_pb0.out rfl
  have cpb04 := row_cell (k := 4) (v := .int .i64 off) B_pb0.out rfl
  have cpb05 := row_cell (k := 5) (v := .int .u8 ttl) B_pb0.out rfl
  have cpb06 := row_cell (k := 6) (v := .int .u8 pr) B_pb0.out rfl
  have cpb07 := row_cell (k := 7) (v := .int .u32 src) B_pb0.out rfl
  have cpb08 := row_cell (k := 8) (v := .int .u32 dst) B_pb0.out rfl
  have cpb09 := row_cell (k := 9) (v := .slice A b.length c) B_pb0.out rfl
  go_upto_region 5 with fail
  have hx : Ex (fun _ => False) w2 (w2.alloc (.cells #[.int .u8 69, .int .u8 tos, .int .u16 (20 + (b.length : Int)), .int .u16 ident, .int .u16 (off / 8), .int .u8 ttl, .int .u8 pr, .int .u16 0, .int .u32 src, .int .u32 dst] 97)) := (Ex.refl _ w2).alloc _
  have hb : (w2.alloc (.cells #[.int .u8 69, .int .u8 tos, .int .u16 (20 + (b.length : Int)), .int .u16 ident, .int .u16 (off / 8), .int .u8 ttl, .int .u8 pr, .int .u16 0, .int .u32 src, .int .u32 dst] 97)).heap[w2.heap.size]? = some (.cells #[.int .u8 69, .int .u8 tos, .int .u16 (20 + (b.length : Int)), .int .u16 ident, .int .u16 (off / 8), .int .u8 ttl, .int .u8 pr, .int .u16 0, .int .u32 src, .int .u32 dst] 97) := heap_alloc_new w2 _
  obtain ⟨hb0, hhb0⟩ : ∃ hb0, hb0 = w2.heap.size := ⟨_, rfl⟩
  have hb_hb0 : w2.heap.size ≤ hb0 := by omega
  rw [← hhb0] at hb
  try simp only [← hhb0]
  generalize w2.alloc (.cells #[.int .u8 69, .int .u8 tos, .int .u16 (20 + (b.length : Int)), .int .u16 ident, .int .u16 (off / 8), .int .u8 ttl, .int .u8 pr, .int .u16 0, .int .u32 src, .int .u32 dst] 97) = w3 at hx hb ⊢
  clear hhb0
  have HX_w3 := Lib.hid hx
  clear hx
  have B_hb0 := Lib.hid hb
  clear hb
  clear cpb00 cpb01 cpb02 cpb03 cpb04 cpb05 cpb06 cpb07 cpb08 cpb09
  have cpb02 := row_cell (k := 2) (v := .bool false) ((HX_w3.out.block pb0 (row_lt B_pb0.out) id).trans B_pb0.out) rfl
  go_upto_region 7 with fail
  clear cpb02
  have cpb03 := row_cell (k := 3) (v := .bool true) ((HX_w3.out.block pb0 (row_lt B_pb0.out) id).trans B_pb0.out) rfl
  have chb04 := row_cell (k := 4) (v := .int .u16 (off / 8)) B_hb0.out rfl
  have fhb04 := row_frozen B_hb0.out 4
  go_upto_region 9 with fail
  have hb : (w3.setCell ⟨hb0, 4, none⟩ (.int .u16 (off / 8 + 8192))).heap[hb0]? = some (.cells #[.int .u8 69, .int .u8 tos, .int .u16 (20 + (b.length : Int)), .int .u16 ident, .int .u16 (off / 8 + 8192), .int .u8 ttl, .int .u8 pr, .int .u16 0, .int .u32 src, .int .u32 dst] 97) := (row_set B_hb0.out 4 (.int .u16 (off / 8 + 8192)))
  have hx : Ex (fun j => j = hb0) w3 (w3.setCell ⟨hb0, 4, none⟩ (.int .u16 (off / 8 + 8192))) := ((Ex.refl (fun j => j = hb0) w3).setCell (p := ⟨hb0, 4, none⟩) (.inl rfl) (.int .u16 (off / 8 + 8192)))
  clear cpb03 chb04 fhb04
  generalize (w3.setCell ⟨hb0, 4, none⟩ (.int .u16 (off / 8 + 8192))) = w5 at hx hb ⊢
  clear B_hb0
  have HX_w5 := Lib.hid hx
  clear hx
  have B_hb0 := Lib.hid hb
  clear hb
  clear j1 j2 j3
  have chb00 := row_cell (k := 0) (v := .int .u8 69) B_hb0.out rfl
  have chb01 := row_cell (k := 1) (v := .int .u8 tos) B_hb0.out rfl
  have chb02 := row_cell (k := 2) (v := .int .u16 (20 + (b.length : Int))) B_hb0.out rfl
  have chb03 := row_cell (k := 3) (v := .int .u16 ident) B_hb0.out rfl
  have chb04 := row_cell (k := 4) (v := .int .u16 (off / 8 + 8192)) B_hb0.out rfl
  have chb05 := row_cell (k := 5) (v := .int .u8 ttl) B_hb0.out rfl
  have chb06 := row_cell (k := 6) (v := .int .u8 pr) B_hb0.out rfl
  have chb07 := row_cell (k := 7) (v := .int .u16 0) B_hb0.out rfl
  have chb08 := row_cell (k := 8) (v := .int .u32 src) B_hb0.out rfl
  have chb09 := row_cell (k := 9) (v := .int .u32 dst) B_hb0.out rfl
  go_wp2_with fail
  refine (hbytes_any 69 tos (20 + (b.length : Int)) ident (off / 8 + 8192) ttl pr 0 src dst ⟨by decide, by decide⟩ ⟨o00, o01⟩ ⟨by omega, by omega⟩ ⟨o10, o11⟩ ⟨by omega, by omega⟩ ⟨o30, o31⟩ ⟨o40, o41⟩ ⟨by omega, by omega⟩ ⟨o50, o51⟩ ⟨o60, o61⟩ w5).mono ?_
  rintro e w6 ⟨A6, c6, rfl, ho, hx⟩
  have HX_w6 := Lib.hid hx
  clear hx
  have HO6 := Lib.hid ho
  clear ho chb00 chb01 chb02 chb03 chb04 chb05 chb06 chb07 chb08 chb09
  obtain ⟨s, hs, hs1⟩ : ∃ s : Nat, s = (⟨tos, ident, false, true, off, ttl, pr, src, dst, b⟩ : Pk).sum ∧ s ≤ 65535 := ⟨_, rfl, by have := Pk.sum_le (⟨tos, ident, false, true, off, ttl, pr, src, dst, b⟩ : Pk); omega⟩
  have hs2 : su ((⟨69, tos, 20 + (b.length : Int), ident, off / 8 + 8192, ttl, pr, 0, src, dst⟩ : Hd)).bytes = s := by
    rw [hs, ← HBITS.out]
    rfl
  have HS := Lib.hid hs
  clear hs
  go_wp2_with fail
  refine (sum1_any _ _ _ w6 _ _ rfl HO6.out.rb.any (by rw [Hd.bytes_len]; omega)).mono ?_
  rintro e w7 ⟨rfl, hw7⟩
  rw [hs2]
  have hx : Ex (fun _ => False) w6 w7 := by rw [← hw7]; exact (Ex.refl _ w6).alloc _
  try rw [hw7]
  clear hs2 hw7
  have HX_w7 := Lib.hid hx
  clear hx
  have chb07 := row_cell (k := 7) (v := .int .u16 0) (((HX_w6.out.trans HX_w7.out).block hb0 (row_lt B_hb0.out) id).trans B_hb0.out) rfl
  have fhb07 := row_frozen (((HX_w6.out.trans HX_w7.out).block hb0 (row_lt B_hb0.out) id).trans B_hb0.out) 7
  go_upto_region 10 with fail
  replace B_hb0 := Lib.hid (((HX_w6.out.trans HX_w7.out).block hb0 (row_lt B_hb0.out) id).trans B_hb0.out)
  have hb : (w7.setCell ⟨hb0, 7, none⟩ (.int .u16 (s : Int))).heap[hb0]? = some (.cells #[.int .u8 69, .int .u8 tos, .int .u16 (20 + (b.length : Int)), .int .u16 ident, .int .u16 (off / 8 + 8192), .int .u8 ttl, .int .u8 pr, .int .u16 (s : Int), .int .u32 src, .int .u32 dst] 97) := (row_set B_hb0.out 7 (.int .u16 (s : Int)))
  have hx : Ex (fun j => j = hb0) w7 (w7.setCell ⟨hb0, 7, none⟩ (.int .u16 (s : Int))) := ((Ex.refl (fun j => j = hb0) w7).setCell (p := ⟨hb0, 7, none⟩) (.inl rfl) (.int .u16 (s : Int)))
  clear chb07 fhb07
  generalize (w7.setCell ⟨hb0, 7, none⟩ (.int .u16 (s : Int))) = w8 at hx hb ⊢
  clear B_hb0
  have HX_w8 := Lib.hid hx
  clear hx
  have B_hb0 := Lib.hid hb
  clear hb
  have chb00 := row_cell (k := 0) (v := .int .u8 69) B_hb0.out rfl
  have chb01 := row_cell (k := 1) (v := .int .u8 tos) B_hb0.out rfl
  have chb02 := row_cell (k := 2) (v := .int .u16 (20 + (b.length : Int))) B_hb0.out rfl
  have chb03 := row_cell (k := 3) (v := .int .u16 ident) B_hb0.out rfl
  have chb04 := row_cell (k := 4) (v := .int .u16 (off / 8 + 8192)) B_hb0.out rfl
  have chb05 := row_cell (k := 5) (v := .int .u8 ttl) B_hb0.out rfl
  have chb06 := row_cell (k := 6) (v := .int .u8 pr) B_hb0.out rfl
  have chb07 := row_cell (k := 7) (v := .int .u16 (s : Int)) B_hb0.out rfl
  have chb08 := row_cell (k := 8) (v := .int .u32 src) B_hb0.out rfl
  have chb09 := row_cell (k := 9) (v := .int .u32 dst) B_hb0.out rfl
  have cpb09 := row_cell (k := 9) (v := .slice A b.length c) ((((((HX_w3.out.andThen HX_w5.out (fun i hi e => by have := hb_hb0; omega)).trans HX_w6.out).trans HX_w7.out).andThen HX_w8.out (fun i hi e => by have := hb_hb0; omega)).block pb0 (row_lt B_pb0.out) id).trans B_pb0.out) rfl
  have hS0 : Ex (fun _ => False) w8 w8.drew := (Ex.refl _ w8).drew
  have hrb := (RB.keep HR.out ((((((HX_w1.out.trans HX_w2.out).trans HX_w3.out).andThen HX_w5.out (fun i hi e => by have := (HX_w1.out.trans HX_w2.out).size; have := hb_hb0; omega)).trans HX_w6.out).trans HX_w7.out).andThen HX_w8.out (fun i hi e => by have := (HX_w1.out.trans HX_w2.out).size; have := hb_hb0; omega)) (fun _ _ _ => id))
  have HRB := Lib.hid hrb
  clear hrb
  have hlen : (⟨69, tos, 20 + (b.length : Int), ident, off / 8 + 8192, ttl, pr, (s : Int), src, dst⟩ : Hd).bytes.length = 20 := rfl
  have HLEN := Lib.hid hlen
  clear hlen
  refine wp_region_held_drew (S := fun W => Ex (fun _ => False) w8 W) (by kernel_rfl) hS0 (fun _ => ?_)
  refine wpAnyH_take (i := 0) (oi := { dst := some 50, op := Go.Op.load 97 (Go.Operand.tmp 5), type := 97, pos := "ipv4.go:142", after := #[], guard := none }) (v := ?v6) rfl (by kernel_rfl) (by kernel_rfl) (by kernel_rfl) (fun _ _ _ h => h) (Or.inl ⟨by rfl, ?hy6⟩) (by assumption) ?rest6
  case hy6 => (intro w hSw; (try dsimp only at hSw); have e0 := hSw.cell chb00 id; have e1 := hSw.cell chb01 id; have e2 := hSw.cell chb02 id; have e3 := hSw.cell chb03 id; have e4 := hSw.cell chb04 id; have e5 := hSw.cell chb05 id; have e6 := hSw.cell chb06 id; have e7 := hSw.cell chb07 id; have e8 := hSw.cell chb08 id; have e9 := hSw.cell chb09 id; have e10 := hSw.cell cpb09 id; go_simp <;> with_reducible rfl)
  try simp only [Act.put, List.setIfInBounds_toArray, List.set_cons_zero, List.set_cons_succ]
  refine wpAnyH_take (i := 2) (oi := { dst := some 52, op := Go.Op.fieldAddr 51 (Go.Operand.tmp 1) 9, type := 0, pos := "ipv4.go:142", after := #[], guard := none }) (v := ?v7) rfl (by kernel_rfl) (by kernel_rfl) (by kernel_rfl) (fun _ _ _ h => h) (Or.inl ⟨by rfl, ?hy7⟩) (by assumption) ?rest7
  case hy7 => (intro w hSw; (try dsimp only at hSw); have e0 := hSw.cell chb00 id; have e1 := hSw.cell chb01 id; have e2 := hSw.cell chb02 id; have e3 := hSw.cell chb03 id; have e4 := hSw.cell chb04 id; have e5 := hSw.cell chb05 id; have e6 := hSw.cell chb06 id; have e7 := hSw.cell chb07 id; have e8 := hSw.cell chb08 id; have e9 := hSw.cell chb09 id; have e10 := hSw.cell cpb09 id; go_simp <;> with_reducible rfl)
  try simp only [Act.put, List.setIfInBounds_toArray, List.set_cons_zero, List.set_cons_succ]
  refine wpAnyH_take (i := 3) (oi := { dst := some 53, op := Go.Op.load 22 (Go.Operand.tmp 52), type := 22, pos := "ipv4.go:142", after := #[{ on := 2, ground := Go.Ground.data }], guard := none }) (v := ?v8) rfl (by kernel_rfl) (by kernel_rfl) (by kernel_rfl) (fun _ _ _ h => h) (Or.inl ⟨by rfl, ?hy8⟩) (by assumption) ?rest8
  case hy8 => (intro w hSw; (try dsimp only at hSw); have e0 := hSw.cell chb00 id; have e1 := hSw.cell chb01 id; have e2 := hSw.cell chb02 id; have e3 := hSw.cell chb03 id; have e4 := hSw.cell chb04 id; have e5 := hSw.cell chb05 id; have e6 := hSw.cell chb06 id; have e7 := hSw.cell chb07 id; have e8 := hSw.cell chb08 id; have e9 := hSw.cell chb09 id; have e10 := hSw.cell cpb09 id; go_simp <;> with_reducible rfl)
  try simp only [Act.put, List.setIfInBounds_toArray, List.set_cons_zero, List.set_cons_succ]
  refine wpAnyH_ready (rs := [1]) (by kernel_rfl) (by simp) ?_
  refine AllReadyH.cons (o := { dst := some 51, op := Go.Op.call { callee := Go.Callee.value (Go.Operand.func 56), args := #[Go.Operand.tmp 50], argTypes := #[97] }, type := 22, pos := "ipv4.go:142", after := #[{ on := 0, ground := Go.Ground.data }], guard := none }) rfl (fun K hK => ?_) AllReadyH.nil
  go_simp
  refine (hbytes_any 69 tos (20 + (b.length : Int)) ident (off / 8 + 8192) ttl pr (s : Int) src dst ⟨by decide, by decide⟩ ⟨o00, o01⟩ ⟨by omega, by omega⟩ ⟨o10, o11⟩ ⟨by omega, by omega⟩ ⟨o30, o31⟩ ⟨o40, o41⟩ ⟨by omega, by omega⟩ ⟨o50, o51⟩ ⟨o60, o61⟩ _).mono ?_
  rintro e w9 ⟨A9, c9, rfl, ho9, hx9⟩
  have hS1 := hS0.trans hx9
  have HO9 := Lib.hid (ho9.mono (show w8.heap.size ≤ w8.drew.heap.size from Nat.le_refl _))
  clear ho9
  refine hK.out _ _ hS1 (fun _ => ?_)
  refine wpAnyH_ready (rs := [4]) (by kernel_rfl) (by simp) ?_
  refine AllReadyH.cons (o := { dst := some 54, op := Go.Op.call { callee := Go.Callee.builtin Go.Builtin.append, args := #[Go.Operand.tmp 51, Go.Operand.tmp 53], argTypes := #[22, 22] }, type := 22, pos := "ipv4.go:142", after := #[{ on := 1, ground := Go.Ground.data }, { on := 3, ground := Go.Ground.data }, { on := 1, ground := Go.Ground.chain }], guard := none }) rfl (fun K hK => ?_) AllReadyH.nil
  refine step_append_ob i0 22 Tryd.underlying22 hi hz0 hz1 hz2 rfl (.tmp 51) (.tmp 53) rfl w8.heap.size (.slice (some A9) 20 c9) (⟨69, tos, 20 + (b.length : Int), ident, off / 8 + 8192, ttl, pr, (s : Int), src, dst⟩ : Hd).bytes rfl P (.slice A b.length c) b rfl ?o1 ?o2 ?o3 ?o4 ?_
  case o1 => exact HO9.out
  case o2 => exact HRB.out.keep hS1 (fun _ _ _ => id)
  case o3 => rw [HLEN.out]; omega
  case o4 => exact hS1.size
  intro A2 c2 w10 ho3 hg3 hn3 hb3
  try simp only [Act.put, List.setIfInBounds_toArray, List.set_cons_zero, List.set_cons_succ]
  have hS2 := hS1.grown hg3 (fun k hk => .inr (HO9.out.lt k hk).1)
  refine hK.out _ _ hS2 (fun _ => ?_)
  refine wpAnyH_take (i := 5) (oi := { dst := some 2, op := Go.Op.assign (Go.Operand.tmp 54), type := 22, pos := "ipv4.go:142", after := #[{ on := 4, ground := Go.Ground.data }, { on := 4, ground := Go.Ground.chain }, { on := 0, ground := Go.Ground.phase }, { on := 1, ground := Go.Ground.phase }, { on := 2, ground := Go.Ground.phase }, { on := 3, ground := Go.Ground.phase }, { on := 4, ground := Go.Ground.phase }], guard := none }) (v := ?v9) rfl (by kernel_rfl) (by kernel_rfl) (by kernel_rfl) (fun _ _ _ h => h) (Or.inl ⟨by rfl, ?hy9⟩) (by assumption) ?rest9
  case hy9 => (intro w hSw; (try dsimp only at hSw); have e0 := hSw.cell chb00 id; have e1 := hSw.cell chb01 id; have e2 := hSw.cell chb02 id; have e3 := hSw.cell chb03 id; have e4 := hSw.cell chb04 id; have e5 := hSw.cell chb05 id; have e6 := hSw.cell chb06 id; have e7 := hSw.cell chb07 id; have e8 := hSw.cell chb08 id; have e9 := hSw.cell chb09 id; have e10 := hSw.cell cpb09 id; go_simp <;> with_reducible rfl)
  try simp only [Act.put, List.setIfInBounds_toArray, List.set_cons_zero, List.set_cons_succ]
  refine wpAnyH_take (i := 6) (oi := { dst := some 3, op := Go.Op.assign (Go.Operand.const Go.Value.nilIface), type := 29, pos := "ipv4.go:142", after := #[{ on := 5, ground := Go.Ground.chain }, { on := 0, ground := Go.Ground.phase }, { on := 1, ground := Go.Ground.phase }, { on := 2, ground := Go.Ground.phase }, { on := 3, ground := Go.Ground.phase }, { on := 4, ground := Go.Ground.phase }, { on := 5, ground := Go.Ground.phase }], guard := none }) (v := ?v10) rfl (by kernel_rfl) (by kernel_rfl) (by kernel_rfl) (fun _ _ _ h => h) (Or.inl ⟨by rfl, ?hy10⟩) (by assumption) ?rest10
  case hy10 => (intro w hSw; (try dsimp only at hSw); have e0 := hSw.cell chb00 id; have e1 := hSw.cell chb01 id; have e2 := hSw.cell chb02 id; have e3 := hSw.cell chb03 id; have e4 := hSw.cell chb04 id; have e5 := hSw.cell chb05 id; have e6 := hSw.cell chb06 id; have e7 := hSw.cell chb07 id; have e8 := hSw.cell chb08 id; have e9 := hSw.cell chb09 id; have e10 := hSw.cell cpb09 id; go_simp <;> with_reducible rfl)
  try simp only [Act.put, List.setIfInBounds_toArray, List.set_cons_zero, List.set_cons_succ]
  refine wpAnyH_done (by kernel_rfl) ?_ _
  rw [HLEN.out] at ho3
  cases A2 with
  | none => exact absurd (hn3.1 rfl).1 (by simp)
  | some A2 =>
    have HO := Lib.hid ho3
    have HXX := Lib.hid (((((((HX_w1.out.trans HX_w2.out).trans HX_w3.out).andThen HX_w5.out (fun i hi e => by have := (HX_w1.out.trans HX_w2.out).size; have := hb_hb0; omega)).trans HX_w6.out).trans HX_w7.out).andThen HX_w8.out (fun i hi e => by have := (HX_w1.out.trans HX_w2.out).size; have := hb_hb0; omega)).trans hS2)
    have hz8 := ((((((HX_w1.out.trans HX_w2.out).trans HX_w3.out).andThen HX_w5.out (fun i hi e => by have := (HX_w1.out.trans HX_w2.out).size; have := hb_hb0; omega)).trans HX_w6.out).trans HX_w7.out).andThen HX_w8.out (fun i hi e => by have := (HX_w1.out.trans HX_w2.out).size; have := hb_hb0; omega)).size
    clear ho3 hg3 hn3 hb3 hS0 hS1 hS2 hx9 chb00 chb01 chb02 chb03 chb04 chb05 chb06 chb07 chb08 chb09 cpb09
    go_wp2_with fail
    go_ret2
    have e : pb (⟨tos, ident, false, true, off, ttl, pr, src, dst, b⟩ : Pk) = (⟨69, tos, 20 + (b.length : Int), ident, off / 8 + 8192, ttl, pr, (s : Int), src, dst⟩ : Hd).bytes ++ b := by
      rw [HS.out, ← HBITS.out]
      rfl
    rw [e]
    exact ⟨HXX.out, A2, c2, rfl, HO.out.mono hz8⟩
set_option maxRecDepth 100000 in
set_option maxHeartbeats 4000000 in
theorem pbytes_tf (P : Nat → Prop) (tos ident : Int) (off ttl pr src dst : Int) (b : List UInt8) (A : Option Addr) (c : Nat) (w : World) (ok : Pk.ok ⟨tos, ident, true, false, off, ttl, pr, src, dst, b⟩) (hr : RB w P (.slice A b.length c) b) (hn : b.length ≤ 1000000) (hright : (⟨tos, ident, true, false, off, ttl, pr, src, dst, b⟩ : Pk).right = 0) :
    Calls Tryd.prog 29 #[.agg #[.int .u8 tos, .int .u16 ident, .bool true, .bool false, .int .i64 off, .int .u8 ttl, .int .u8 pr, .int .u32 src, .int .u32 dst, .slice A b.length c]] w fun e w' => Ex (fun _ => False) w w' ∧ ∃ A' c', e = .returned (.tuple #[.slice (some A') (20 + b.length) c', .nilIface]) ∧ OB w' w.heap.size (.slice (some A') (20 + b.length) c') (pb (⟨tos, ident, true, false, off, ttl, pr, src, dst, b⟩ : Pk)) := by
  obtain ⟨i0, hi, hz0, hz1, hz2⟩ := info_parts Tryd.info5
  obtain ⟨k1, k2, _, _, k5⟩ := Pk.right_zero hright
  obtain ⟨o0, o1, _, o3, o4, o5, o6⟩ := ok
  simp only at k1 k2 k5 o0 o1 o3 o4 o5 o6
  obtain ⟨o00, o01⟩ := o0
  obtain ⟨o10, o11⟩ := o1
  obtain ⟨o30, o31⟩ := o3
  obtain ⟨o40, o41⟩ := o4
  obtain ⟨o50, o51⟩ := o5
  obtain ⟨o60, o61⟩ := o6
  have k6 : off ≤ 65515 := by omega
  have k7 : (b.length : Int) ≤ 65515 := by omega
  have K2 := Lib.hid k2
  have hbits : (⟨tos, ident, true, false, off, ttl, pr, src, dst, b⟩ : Pk).bits = off / 8 + 16384 := by show off / 8 + 16384 + 0 = off / 8 + 16384; omega
  have HBITS := Lib.hid hbits
  have HRIGHT := Lib.hid hright
  have j1 := or_14 (off / 8) (by omega) (by omega)
  have j2 := or_13 (off / 8) (by omega) (by omega)
  have j3 := or_1413 (off / 8) (by omega) (by omega)
  clear k2 hbits hright
  go_enter Tryd.func29, Tryd.ntmps29
  go_upto_region 1 with fail
  have HR := Lib.hid hr
  clear hr
  have hx : Ex (fun _ => False) w (w.alloc (.cells #[.int .u8 tos, .int .u16 ident, .bool true, .bool false, .int .i64 off, .int .u8 ttl, .int .u8 pr, .int .u32 src, .int .u32 dst, .slice A b.length c] 51)) := (Ex.refl _ w).alloc _
  have hb : (w.alloc (.cells #[.int .u8 tos, .int .u16 ident, .bool true, .bool false, .int .i64 off, .int .u8 ttl, .int .u8 pr, .int .u32 src, .int .u32 dst, .slice A b.length c] 51)).heap[w.heap.size]? = some (.cells #[.int .u8 tos, .int .u16 ident, .bool true, .bool false, .int .i64 off, .int .u8 ttl, .int .u8 pr, .int .u32 src, .int .u32 dst, .slice A b.length c] 51) := heap_alloc_new w _
  obtain ⟨pb0, hpb0⟩ : ∃ pb0, pb0 = w.heap.size := ⟨_, rfl⟩
  have hb_pb0 : w.heap.size ≤ pb0 := by omega
  rw [← hpb0] at hb
  try simp only [← hpb0]
  generalize w.alloc (.cells #[.int .u8 tos, .int .u16 ident, .bool true, .bool false, .int .i64 off, .int .u8 ttl, .int .u8 pr, .int .u32 src, .int .u32 dst, .slice A b.length c] 51) = w1 at hx hb ⊢
  clear hpb0
  have HX_w1 := Lib.hid hx
  clear hx
  have B_pb0 := Lib.hid hb
  clear hb
  have cpb00 := row_cell (k := 0) (v := .int .u8 tos) B_pb0.out rfl
  have cpb01 := row_cell (k := 1) (v := .int .u16 ident) B_pb0.out rfl
  have cpb02 := row_cell (k := 2) (v := .bool true) B_pb0.out rfl
  have cpb03 := row_cell (k := 3) (v := .bool false) B_pb0.out rfl
  have cpb04 := row_cell (k := 4) (v := .int .i64 off) B_pb0.out rfl
  have cpb05 := row_cell (k := 5) (v := .int .u8 ttl) B_pb0.out rfl
  have cpb06 := row_cell (k := 6) (v := .int .u8 pr) B_pb0.out rfl
  have cpb07 := row_cell (k := 7) (v := .int .u32 src) B_pb0.out rfl
  have cpb08 := row_cell (k := 8) (v := .int .u32 dst) B_pb0.out rfl
  have cpb09 := row_cell (k := 9) (v := .slice A b.length c) B_pb0.out rfl
  go_wp2_with fail
  refine (right_any (⟨tos, ident, true, false, off, ttl, pr, src, dst, b⟩ : Pk) A c _ (by show b.length ≤ _; omega)).mono ?_
  rintro e w2 ⟨hx, hcase⟩
  obtain rfl : e = .returned .nilIface := by
    rcases hcase with ⟨_, h⟩ | ⟨h, _⟩
    · exact h
    · exact absurd HRIGHT.out h
  clear hcase cpb00 cpb01 cpb02 cpb03 cpb04 cpb05 cpb06 cpb07 cpb08 cpb09
  have HX_w2 := Lib.hid hx
  clear hx
  replace B_pb0 := Lib.hid ((HX_w2.out.block pb0 (row_lt B_pb0.out) id).trans B_pb0.out)
  have cpb00 := row_cell (k := 0) (v := .int .u8 tos) B_pb0.out rfl
  have cpb01 := row_cell (k := 1) (v := .int .u16 ident) B_pb0.out rfl
  have cpb02 := row_cell (k := 2) (v := .bool true) B_pb0.out rfl
  have cpb03 := row_cell (k := 3) (v := .bool false) B_pb0.out rfl
  have cpb04 := row_cell (k := 4) (v := .int .i64 off) B_pb0.out rfl
  have cpb05 := row_cell (k := 5) (v := .int .u8 ttl) B_pb0.out rfl
  have cpb06 := row_cell (k := 6) (v := .int .u8 pr) B_pb0.out rfl
  have cpb07 := row_cell (k := 7) (v := .int .u32 src) B_pb0.out rfl
  have cpb08 := row_cell (k := 8) (v := .int .u32 dst) B_pb0.out rfl
  have cpb09 := row_cell (k := 9) (v := .slice A b.length c) B_pb0.out rfl
  go_upto_region 5 with fail
  have hx : Ex (fun _ => False) w2 (w2.alloc (.cells #[.int .u8 69, .int .u8 tos, .int .u16 (20 + (b.length : Int)), .int .u16 ident, .int .u16 (off / 8), .int .u8 ttl, .int .u8 pr, .int .u16 0, .int .u32 src, .int .u32 dst] 97)) := (Ex.refl _ w2).alloc _
  have hb : (w2.alloc (.cells #[.int .u8 69, .int .u8 tos, .int .u16 (20 + (b.length : Int)), .int .u16 ident, .int .u16 (off / 8), .int .u8 ttl, .int .u8 pr, .int .u16 0, .int .u32 src, .int .u32 dst] 97)).heap[w2.heap.size]? = some (.cells #[.int .u8 69, .int .u8 tos, .int .u16 (20 + (b.length : Int)), .int .u16 ident, .int .u16 (off / 8), .int .u8 ttl, .int .u8 pr, .int .u16 0, .int .u32 src, .int .u32 dst] 97) := heap_alloc_new w2 _
  obtain ⟨hb0, hhb0⟩ : ∃ hb0, hb0 = w2.heap.size := ⟨_, rfl⟩
  have hb_hb0 : w2.heap.size ≤ hb0 := by omega
  rw [← hhb0] at hb
  try simp only [← hhb0]
  generalize w2.alloc (.cells #[.int .u8 69, .int .u8 tos, .int .u16 (20 + (b.length : Int)), .int .u16 ident, .int .u16 (off / 8), .int .u8 ttl, .int .u8 pr, .int .u16 0, .int .u32 src, .int .u32 dst] 97) = w3 at hx hb ⊢
  clear hhb0
  have HX_w3 := Lib.hid hx
  clear hx
  have B_hb0 := Lib.hid hb
  clear hb
  clear cpb00 cpb01 cpb02 cpb03 cpb04 cpb05 cpb06 cpb07 cpb08 cpb09
  have cpb02 := row_cell (k := 2) (v := .bool true) ((HX_w3.out.block pb0 (row_lt B_pb0.out) id).trans B_pb0.out) rfl
  have chb04 := row_cell (k := 4) (v := .int .u16 (off / 8)) B_hb0.out rfl
  have fhb04 := row_frozen B_hb0.out 4
  go_upto_region 7 with fail
  have hb : (w3.setCell ⟨hb0, 4, none⟩ (.int .u16 (off / 8 + 16384))).heap[hb0]? = some (.cells #[.int .u8 69, .int .u8 tos, .int .u16 (20 + (b.length : Int)), .int .u16 ident, .int .u16 (off / 8 + 16384), .int .u8 ttl, .int .u8 pr, .int .u16 0, .int .u32 src, .int .u32 dst] 97) := (row_set B_hb0.out 4 (.int .u16 (off / 8 + 16384)))
  have hx : Ex (fun j => j = hb0) w3 (w3.setCell ⟨hb0, 4, none⟩ (.int .u16 (off / 8 + 16384))) := ((Ex.refl (fun j => j = hb0) w3).setCell (p := ⟨hb0, 4, none⟩) (.inl rfl) (.int .u16 (off / 8 + 16384)))
  clear cpb02 chb04 fhb04
  generalize (w3.setCell ⟨hb0, 4, none⟩ (.int .u16 (off / 8 + 16384))) = w4 at hx hb ⊢
  clear B_hb0
  have HX_w4 := Lib.hid hx
  clear hx
  have B_hb0 := Lib.hid hb
  clear hb
  have cpb03 := row_cell (k := 3) (v := .bool false) (((HX_w3.out.andThen HX_w4.out (fun i hi e => by have := hb_hb0; omega)).block pb0 (row_lt B_pb0.out) id).trans B_pb0.out) rfl
  go_upto_region 9 with fail
  clear cpb03
  clear j1 j2 j3
  have chb00 := row_cell (k := 0) (v := .int .u8 69) B_hb0.out rfl
  have chb01 := row_cell (k := 1) (v := .int .u8 tos) B_hb0.out rfl
  have chb02 := row_cell (k := 2) (v := .int .u16 (20 + (b.length : Int))) B_hb0.out rfl
  have chb03 := row_cell (k := 3) (v := .int .u16 ident) B_hb0.out rfl
  have chb04 := row_cell (k := 4) (v := .int .u16 (off / 8 + 16384)) B_hb0.out rfl
  have chb05 := row_cell (k := 5) (v := .int .u8 ttl) B_hb0.out rfl
  have chb06 := row_cell (k := 6) (v := .int .u8 pr) B_hb0.out rfl
  have chb07 := row_cell (k := 7) (v := .int .u16 0) B_hb0.out rfl
  have chb08 := row_cell (k := 8) (v := .int .u32 src) B_hb0.out rfl
  have chb09 := row_cell (k := 9) (v := .int .u32 dst) B_hb0.out rfl
  go_wp2_with fail
  refine (hbytes_any 69 tos (20 + (b.length : Int)) ident (off / 8 + 16384) ttl pr 0 src dst ⟨by decide, by decide⟩ ⟨o00, o01⟩ ⟨by omega, by omega⟩ ⟨o10, o11⟩ ⟨by omega, by omega⟩ ⟨o30, o31⟩ ⟨o40, o41⟩ ⟨by omega, by omega⟩ ⟨o50, o51⟩ ⟨o60, o61⟩ w4).mono ?_
  rintro e w6 ⟨A6, c6, rfl, ho, hx⟩
  have HX_w6 := Lib.hid hx
  clear hx
  have HO6 := Lib.hid ho
  clear ho chb00 chb01 chb02 chb03 chb04 chb05 chb06 chb07 chb08 chb09
  obtain ⟨s, hs, hs1⟩ : ∃ s : Nat, s = (⟨tos, ident, true, false, off, ttl, pr, src, dst, b⟩ : Pk).sum ∧ s ≤ 65535 := ⟨_, rfl, by have := Pk.sum_le (⟨tos, ident, true, false, off, ttl, pr, src, dst, b⟩ : Pk); omega⟩
  have hs2 : su ((⟨69, tos, 20 + (b.length : Int), ident, off / 8 + 16384, ttl, pr, 0, src, dst⟩ : Hd)).bytes = s := by
    rw [hs, ← HBITS.out]
    rfl
  have HS := Lib.hid hs
  clear hs
  go_wp2_with fail
  refine (sum1_any _ _ _ w6 _ _ rfl HO6.out.rb.any (by rw [Hd.bytes_len]; omega)).mono ?_
  rintro e w7 ⟨rfl, hw7⟩
  rw [hs2]
  have hx : Ex (fun _ => False) w6 w7 := by rw [← hw7]; exact (Ex.refl _ w6).alloc _
  try rw [hw7]
  clear hs2 hw7
  have HX_w7 := Lib.hid hx
  clear hx
  have chb07 := row_cell (k := 7) (v := .int .u16 0) (((HX_w6.out.trans HX_w7.out).block hb0 (row_lt B_hb0.out) id).trans B_hb0.out) rfl
  have fhb07 := row_frozen (((HX_w6.out.trans HX_w7.out).block hb0 (row_lt B_hb0.out) id).trans B_hb0.out) 7
  go_upto_region 10 with fail
  replace B_hb0 := Lib.hid (((HX_w6.out.trans HX_w7.out).block hb0 (row_lt B_hb0.out) id).trans B_hb0.out)
  have hb : (w7.setCell ⟨hb0, 7, none⟩ (.int .u16 (s : Int))).heap[hb0]? = some (.cells #[.int .u8 69, .int .u8 tos, .int .u16 (20 + (b.length : Int)), .int .u16 ident, .int .u16 (off / 8 + 16384), .int .u8 ttl, .int .u8 pr, .int .u16 (s : Int), .int .u32 src, .int .u32 dst] 97) := (row_set B_hb0.out 7 (.int .u16 (s : Int)))
  have hx : Ex (fun j => j = hb0) w7 (w7.setCell ⟨hb0, 7, none⟩ (.int .u16 (s : Int))) := ((Ex.refl (fun j => j = hb0) w7).setCell (p := ⟨hb0, 7, none⟩) (.inl rfl) (.int .u16 (s : Int)))
  clear chb07 fhb07
  generalize (w7.setCell ⟨hb0, 7, none⟩ (.int .u16 (s : Int))) = w8 at hx hb ⊢
  clear B_hb0
  have HX_w8 := Lib.hid hx
  clear hx
  have B_hb0 := Lib.hid hb
  clear hb
  have chb00 := row_cell (k := 0) (v := .int .u8 69) B_hb0.out rfl
  have chb01 := row_cell (k := 1) (v := .int .u8 tos) B_hb0.out rfl
  have chb02 := row_cell (k := 2) (v := .int .u16 (20 + (b.length : Int))) B_hb0.out rfl
  have chb03 := row_cell (k := 3) (v := .int .u16 ident) B_hb0.out rfl
  have chb04 := row_cell (k := 4) (v := .int .u16 (off / 8 + 16384)) B_hb0.out rfl
  have chb05 := row_cell (k := 5) (v := .int .u8 ttl) B_hb0.out rfl
  have chb06 := row_cell (k := 6) (v := .int .u8 pr) B_hb0.out rfl
  have chb07 := row_cell (k := 7) (v := .int .u16 (s : Int)) B_hb0.out rfl
  have chb08 := row_cell (k := 8) (v := .int .u32 src) B_hb0.out rfl
  have chb09 := row_cell (k := 9) (v := .int .u32 dst) B_hb0.out rfl
  have cpb09 := row_cell (k := 9) (v := .slice A b.length c) ((((((HX_w3.out.andThen HX_w4.out (fun i hi e => by have := hb_hb0; omega)).trans HX_w6.out).trans HX_w7.out).andThen HX_w8.out (fun i hi e => by have := hb_hb0; omega)).block pb0 (row_lt B_pb0.out) id).trans B_pb0.out) rfl
  have hS0 : Ex (fun _ => False) w8 w8.drew := (Ex.refl _ w8).drew
  have hrb := (RB.keep HR.out ((((((HX_w1.out.trans HX_w2.out).trans HX_w3.out).andThen HX_w4.out (fun i hi e => by have := (HX_w1.out.trans HX_w2.out).size; have := hb_hb0; omega)).trans HX_w6.out).trans HX_w7.out).andThen HX_w8.out (fun i hi e => by have := (HX_w1.out.trans HX_w2.out).size; have := hb_hb0; omega)) (fun _ _ _ => id))
  have HRB := Lib.hid hrb
  clear hrb
  have hlen : (⟨69, tos, 20 + (b.length : Int), ident, off / 8 + 16384, ttl, pr, (s : Int), src, dst⟩ : Hd).bytes.length = 20 := rfl
  have HLEN := Lib.hid hlen
  clear hlen
  refine wp_region_held_drew (S := fun W => Ex (fun _ => False) w8 W) (by kernel_rfl) hS0 (fun _ => ?_)
  refine wpAnyH_take (i := 0) (oi := { dst := some 50, op := Go.Op.load 97 (Go.Operand.tmp 5), type := 97, pos := "ipv4.go:142", after := #[], guard := none }) (v := ?v11) rfl (by kernel_rfl) (by kernel_rfl) (by kernel_rfl) (fun _ _ _ h => h) (Or.inl ⟨by rfl, ?hy11⟩) (by assumption) ?rest11
  case hy11 => (intro w hSw; (try dsimp only at hSw); have e0 := hSw.cell chb00 id; have e1 := hSw.cell chb01 id; have e2 := hSw.cell chb02 id; have e3 := hSw.cell chb03 id; have e4 := hSw.cell chb04 id; have e5 := hSw.cell chb05 id; have e6 := hSw.cell chb06 id; have e7 := hSw.cell chb07 id; have e8 := hSw.cell chb08 id; have e9 := hSw.cell chb09 id; have e10 := hSw.cell cpb09 id; go_simp <;> with_reducible rfl)
  try simp only [Act.put, List.setIfInBounds_toArray, List.set_cons_zero, List.set_cons_succ]
  refine wpAnyH_take (i := 2) (oi := { dst := some 52, op := Go.Op.fieldAddr 51 (Go.Operand.tmp 1) 9, type := 0, pos := "ipv4.go:142", after := #[], guard := none }) (v := ?v12) rfl (by kernel_rfl) (by kernel_rfl) (by kernel_rfl) (fun _ _ _ h => h) (Or.inl ⟨by rfl, ?hy12⟩) (by assumption) ?rest12
  case hy12 => (intro w hSw; (try dsimp only at hSw); have e0 := hSw.cell chb00 id; have e1 := hSw.cell chb01 id; have e2 := hSw.cell chb02 id; have e3 := hSw.cell chb03 id; have e4 := hSw.cell chb04 id; have e5 := hSw.cell chb05 id; have e6 := hSw.cell chb06 id; have e7 := hSw.cell chb07 id; have e8 := hSw.cell chb08 id; have e9 := hSw.cell chb09 id; have e10 := hSw.cell cpb09 id; go_simp <;> with_reducible rfl)
  try simp only [Act.put, List.setIfInBounds_toArray, List.set_cons_zero, List.set_cons_succ]
  refine wpAnyH_take (i := 3) (oi := { dst := some 53, op := Go.Op.load 22 (Go.Operand.tmp 52), type := 22, pos := "ipv4.go:142", after := #[{ on := 2, ground := Go.Ground.data }], guard := none }) (v := ?v13) rfl (by kernel_rfl) (by kernel_rfl) (by kernel_rfl) (fun _ _ _ h => h) (Or.inl ⟨by rfl, ?hy13⟩) (by assumption) ?rest13
  case hy13 => (intro w hSw; (try dsimp only at hSw); have e0 := hSw.cell chb00 id; have e1 := hSw.cell chb01 id; have e2 := hSw.cell chb02 id; have e3 := hSw.cell chb03 id; have e4 := hSw.cell chb04 id; have e5 := hSw.cell chb05 id; have e6 := hSw.cell chb06 id; have e7 := hSw.cell chb07 id; have e8 := hSw.cell chb08 id; have e9 := hSw.cell chb09 id; have e10 := hSw.cell cpb09 id; go_simp <;> with_reducible rfl)
  try simp only [Act.put, List.setIfInBounds_toArray, List.set_cons_zero, List.set_cons_succ]
  refine wpAnyH_ready (rs := [1]) (by kernel_rfl) (by simp) ?_
  refine AllReadyH.cons (o := { dst := some 51, op := Go.Op.call { callee := Go.Callee.value (Go.Operand.func 56), args := #[Go.Operand.tmp 50], argTypes := #[97] }, type := 22, pos := "ipv4.go:142", after := #[{ on := 0, ground := Go.Ground.data }], guard := none }) rfl (fun K hK => ?_) AllReadyH.nil
  go_simp
  refine (hbytes_any 69 tos (20 + (b.length : Int)) ident (off / 8 + 16384) ttl pr (s : Int) src dst ⟨by decide, by decide⟩ ⟨o00, o01⟩ ⟨by omega, by omega⟩ ⟨o10, o11⟩ ⟨by omega, by omega⟩ ⟨o30, o31⟩ ⟨o40, o41⟩ ⟨by omega, by omega⟩ ⟨o50, o51⟩ ⟨o60, o61⟩ _).mono ?_
  rintro e w9 ⟨A9, c9, rfl, ho9, hx9⟩
  have hS1 := hS0.trans hx9
  have HO9 := Lib.hid (ho9.mono (show w8.heap.size ≤ w8.drew.heap.size from Nat.le_refl _))
  clear ho9
  refine hK.out _ _ hS1 (fun _ => ?_)
  refine wpAnyH_ready (rs := [4]) (by kernel_rfl) (by simp) ?_
  refine AllReadyH.cons (o := { dst := some 54, op := Go.Op.call { callee := Go.Callee.builtin Go.Builtin.append, args := #[Go.Operand.tmp 51, Go.Operand.tmp 53], argTypes := #[22, 22] }, type := 22, pos := "ipv4.go:142", after := #[{ on := 1, ground := Go.Ground.data }, { on := 3, ground := Go.Ground.data }, { on := 1, ground := Go.Ground.chain }], guard := none }) rfl (fun K hK => ?_) AllReadyH.nil
  refine step_append_ob i0 22 Tryd.underlying22 hi hz0 hz1 hz2 rfl (.tmp 51) (.tmp 53) rfl w8.heap.size (.slice (some A9) 20 c9) (⟨69, tos, 20 + (b.length : Int), ident, off / 8 + 16384, ttl, pr, (s : Int), src, dst⟩ : Hd).bytes rfl P (.slice A b.length c) b rfl ?o1 ?o2 ?o3 ?o4 ?_
  case o1 => exact HO9.out
  case o2 => exact HRB.out.keep hS1 (fun _ _ _ => id)
  case o3 => rw [HLEN.out]; omega
  case o4 => exact hS1.size
  intro A2 c2 w10 ho3 hg3 hn3 hb3
  try simp only [Act.put, List.setIfInBounds_toArray, List.set_cons_zero, List.set_cons_succ]
  have hS2 := hS1.grown hg3 (fun k hk => .inr (HO9.out.lt k hk).1)
  refine hK.out _ _ hS2 (fun _ => ?_)
  refine wpAnyH_take (i := 5) (oi := { dst := some 2, op := Go.Op.assign (Go.Operand.tmp 54), type := 22, pos := "ipv4.go:142", after := #[{ on := 4, ground := Go.Ground.data }, { on := 4, ground := Go.Ground.chain }, { on := 0, ground := Go.Ground.phase }, { on := 1, ground := Go.Ground.phase }, { on := 2, ground := Go.Ground.phase }, { on := 3, ground := Go.Ground.phase }, { on := 4, ground := Go.Ground.phase }], guard := none }) (v := ?v14) rfl (by kernel_rfl) (by kernel_rfl) (by kernel_rfl) (fun _ _ _ h => h) (Or.inl ⟨by rfl, ?hy14⟩) (by assumption) ?rest14
  case hy14 => (intro w hSw; (try dsimp only at hSw); have e0 := hSw.cell chb00 id; have e1 := hSw.cell chb01 id; have e2 := hSw.cell chb02 id; have e3 := hSw.cell chb03 id; have e4 := hSw.cell chb04 id; have e5 := hSw.cell chb05 id; have e6 := hSw.cell chb06 id; have e7 := hSw.cell chb07 id; have e8 := hSw.cell chb08 id; have e9 := hSw.cell chb09 id; have e10 := hSw.cell cpb09 id; go_simp <;> with_reducible rfl)
  try simp only [Act.put, List.setIfInBounds_toArray, List.set_cons_zero, List.set_cons_succ]
  refine wpAnyH_take (i := 6) (oi := { dst := some 3, op := Go.Op.assign (Go.Operand.const Go.Value.nilIface), type := 29, pos := "ipv4.go:142", after := #[{ on := 5, ground := Go.Ground.chain }, { on := 0, ground := Go.Ground.phase }, { on := 1, ground := Go.Ground.phase }, { on := 2, ground := Go.Ground.phase }, { on := 3, ground := Go.Ground.phase }, { on := 4, ground := Go.Ground.phase }, { on := 5, ground := Go.Ground.phase }], guard := none }) (v := ?v15) rfl (by kernel_rfl) (by kernel_rfl) (by kernel_rfl) (fun _ _ _ h => h) (Or.inl ⟨by rfl, ?hy15⟩) (by assumption) ?rest15
  case hy15 => (intro w hSw; (try dsimp only at hSw); have e0 := hSw.cell chb00 id; have e1 := hSw.cell chb01 id; have e2 := hSw.cell chb02 id; have e3 := hSw.cell chb03 id; have e4 := hSw.cell chb04 id; have e5 := hSw.cell chb05 id; have e6 := hSw.cell chb06 id; have e7 := hSw.cell chb07 id; have e8 := hSw.cell chb08 id; have e9 := hSw.cell chb09 id; have e10 := hSw.cell cpb09 id; go_simp <;> with_reducible rfl)
  try simp only [Act.put, List.setIfInBounds_toArray, List.set_cons_zero, List.set_cons_succ]
  refine wpAnyH_done (by kernel_rfl) ?_ _
  rw [HLEN.out] at ho3
  cases A2 with
  | none => exact absurd (hn3.1 rfl).1 (by simp)
  | some A2 =>
    have HO := Lib.hid ho3
    have HXX := Lib.hid (((((((HX_w1.out.trans HX_w2.out).trans HX_w3.out).andThen HX_w4.out (fun i hi e => by have := (HX_w1.out.trans HX_w2.out).size; have := hb_hb0; omega)).trans HX_w6.out).trans HX_w7.out).andThen HX_w8.out (fun i hi e => by have := (HX_w1.out.trans HX_w2.out).size; have := hb_hb0; omega)).trans hS2)
    have hz8 := ((((((HX_w1.out.trans HX_w2.out).trans HX_w3.out).andThen HX_w4.out (fun i hi e => by have := (HX_w1.out.trans HX_w2.out).size; have := hb_hb0; omega)).trans HX_w6.out).trans HX_w7.out).andThen HX_w8.out (fun i hi e => by have := (HX_w1.out.trans HX_w2.out).size; have := hb_hb0; omega)).size
    clear ho3 hg3 hn3 hb3 hS0 hS1 hS2 hx9 chb00 chb01 chb02 chb03 chb04 chb05 chb06 chb07 chb08 chb09 cpb09
    go_wp2_with fail
    go_ret2
    have e : pb (⟨tos, ident, true, false, off, ttl, pr, src, dst, b⟩ : Pk) = (⟨69, tos, 20 + (b.length : Int), ident, off / 8 + 16384, ttl, pr, (s : Int), src, dst⟩ : Hd).bytes ++ b := by
      rw [HS.out, ← HBITS.out]
      rfl
    rw [e]
    exact ⟨HXX.out, A2, c2, rfl, HO.out.mono hz8⟩
set_option maxRecDepth 100000 in
set_option maxHeartbeats 4000000 in
theorem pbytes_tt (P : Nat → Prop) (tos ident : Int) (off ttl pr src dst : Int) (b : List UInt8) (A : Option Addr) (c : Nat) (w : World) (ok : Pk.ok ⟨tos, ident, true, true, off, ttl, pr, src, dst, b⟩) (hr : RB w P (.slice A b.length c) b) (hn : b.length ≤ 1000000) (hright : (⟨tos, ident, true, true, off, ttl, pr, src, dst, b⟩ : Pk).right = 0) :
    Calls Tryd.prog 29 #[.agg #[.int .u8 tos, .int .u16 ident, .bool true, .bool true, .int .i64 off, .int .u8 ttl, .int .u8 pr, .int .u32 src, .int .u32 dst, .slice A b.length c]] w fun e w' => Ex (fun _ => False) w w' ∧ ∃ A' c', e = .returned (.tuple #[.slice (some A') (20 + b.length) c', .nilIface]) ∧ OB w' w.heap.size (.slice (some A') (20 + b.length) c') (pb (⟨tos, ident, true, true, off, ttl, pr, src, dst, b⟩ : Pk)) := by
  obtain ⟨i0, hi, hz0, hz1, hz2⟩ := info_parts Tryd.info5
  obtain ⟨k1, k2, _, _, k5⟩ := Pk.right_zero hright
  obtain ⟨o0, o1, _, o3, o4, o5, o6⟩ := ok
  simp only at k1 k2 k5 o0 o1 o3 o4 o5 o6
  obtain ⟨o00, o01⟩ := o0
  obtain ⟨o10, o11⟩ := o1
  obtain ⟨o30, o31⟩ := o3
  obtain ⟨o40, o41⟩ := o4
  obtain ⟨o50, o51⟩ := o5
  obtain ⟨o60, o61⟩ := o6
  have k6 : off ≤ 65515 := by omega
  have k7 : (b.length : Int) ≤ 65515 := by omega
  have K2 := Lib.hid k2
  have hbits : (⟨tos, ident, true, true, off, ttl, pr, src, dst, b⟩ : Pk).bits = off / 8 + 16384 + 8192 := by show off / 8 + 16384 + 8192 = off / 8 + 16384 + 8192; omega
  have HBITS := Lib.hid hbits
  have HRIGHT := Lib.hid hright
  have j1 := or_14 (off / 8) (by omega) (by omega)
  have j2 := or_13 (off / 8) (by omega) (by omega)
  have j3 := or_1413 (off / 8) (by omega) (by omega)
  clear k2 hbits hright
  go_enter Tryd.func29, Tryd.ntmps29
  go_upto_region 1 with fail
  have HR := Lib.hid hr
  clear hr
  have hx : Ex (fun _ => False) w (w.alloc (.cells #[.int .u8 tos, .int .u16 ident, .bool true, .bool true, .int .i64 off, .int .u8 ttl, .int .u8 pr, .int .u32 src, .int .u32 dst, .slice A b.length c] 51)) := (Ex.refl _ w).alloc _
  have hb : (w.alloc (.cells #[.int .u8 tos, .int .u16 ident, .bool true, .bool true, .int .i64 off, .int .u8 ttl, .int .u8 pr, .int .u32 src, .int .u32 dst, .slice A b.length c] 51)).heap[w.heap.size]? = some (.cells #[.int .u8 tos, .int .u16 ident, .bool true, .bool true, .int .i64 off, .int .u8 ttl, .int .u8 pr, .int .u32 src, .int .u32 dst, .slice A b.length c] 51) := heap_alloc_new w _
  obtain ⟨pb0, hpb0⟩ : ∃ pb0, pb0 = w.heap.size := ⟨_, rfl⟩
  have hb_pb0 : w.heap.size ≤ pb0 := by omega
  rw [← hpb0] at hb
  try simp only [← hpb0]
  generalize w.alloc (.cells #[.int .u8 tos, .int .u16 ident, .bool true, .bool true, .int .i64 off, .int .u8 ttl, .int .u8 pr, .int .u32 src, .int .u32 dst, .slice A b.length c] 51) = w1 at hx hb ⊢
  clear hpb0
  have HX_w1 := Lib.hid hx
  clear hx
  have B_pb0 := Lib.hid hb
  clear hb
  have cpb00 := row_cell (k := 0) (v := .int .u8 tos) B_pb0.out rfl
  have cpb01 := row_cell (k := 1) (v := .int .u16 ident) B_pb0.out rfl
  have cpb02 := row_cell (k := 2) (v := .bool true) B_pb0.out rfl
  have cpb03 := row_cell (k := 3) (v := .bool true) B_pb0.out rfl
  have cpb04 := row_cell (k := 4) (v := .int .i64 off) B_pb0.out rfl
  have cpb05 := row_cell (k := 5) (v := .int .u8 ttl) B_pb0.out rfl
  have cpb06 := row_cell (k := 6) (v := .int .u8 pr) B_pb0.out rfl
  have cpb07 := row_cell (k := 7) (v := .int .u32 src) B_pb0.out rfl
  have cpb08 := row_cell (k := 8) (v := .int .u32 dst) B_pb0.out rfl
  have cpb09 := row_cell (k := 9) (v := .slice A b.length c) B_pb0.out rfl
  go_wp2_with fail
  refine (right_any (⟨tos, ident, true, true, off, ttl, pr, src, dst, b⟩ : Pk) A c _ (by show b.length ≤ _; omega)).mono ?_
  rintro e w2 ⟨hx, hcase⟩
  obtain rfl : e = .returned .nilIface := by
    rcases hcase with ⟨_, h⟩ | ⟨h, _⟩
    · exact h
    · exact absurd HRIGHT.out h
  clear hcase cpb00 cpb01 cpb02 cpb03 cpb04 cpb05 cpb06 cpb07 cpb08 cpb09
  have HX_w2 := Lib.hid hx
  clear hx
  replace B_pb0 := Lib.hid ((HX_w2.out.block pb0 (row_lt B_pb0.out) id).trans B_pb0.out)
  have cpb00 := row_cell (k := 0) (v := .int .u8 tos) B_pb0.out rfl
  have cpb01 := row_cell (k := 1) (v := .int .u16 ident) B_pb0.out rfl
  have cpb02 := row_cell (k := 2) (v := .bool true) B_pb0.out rfl
  have cpb03 := row_cell (k := 3) (v := .bool true) B_pb0.out rfl
  have cpb04 := row_cell (k := 4) (v := .int .i64 off) B_pb0.out rfl
  have cpb05 := row_cell (k := 5) (v := .int .u8 ttl) B_pb0.out rfl
  have cpb06 := row_cell (k := 6) (v := .int .u8 pr) B_pb0.out rfl
  have cpb07 := row_cell (k := 7) (v := .int .u32 src) B_pb0.out rfl
  have cpb08 := row_cell (k := 8) (v := .int .u32 dst) B_pb0.out rfl
  have cpb09 := row_cell (k := 9) (v := .slice A b.length c) B_pb0.out rfl
  go_upto_region 5 with fail
  have hx : Ex (fun _ => False) w2 (w2.alloc (.cells #[.int .u8 69, .int .u8 tos, .int .u16 (20 + (b.length : Int)), .int .u16 ident, .int .u16 (off / 8), .int .u8 ttl, .int .u8 pr, .int .u16 0, .int .u32 src, .int .u32 dst] 97)) := (Ex.refl _ w2).alloc _
  have hb : (w2.alloc (.cells #[.int .u8 69, .int .u8 tos, .int .u16 (20 + (b.length : Int)), .int .u16 ident, .int .u16 (off / 8), .int .u8 ttl, .int .u8 pr, .int .u16 0, .int .u32 src, .int .u32 dst] 97)).heap[w2.heap.size]? = some (.cells #[.int .u8 69, .int .u8 tos, .int .u16 (20 + (b.length : Int)), .int .u16 ident, .int .u16 (off / 8), .int .u8 ttl, .int .u8 pr, .int .u16 0, .int .u32 src, .int .u32 dst] 97) := heap_alloc_new w2 _
  obtain ⟨hb0, hhb0⟩ : ∃ hb0, hb0 = w2.heap.size := ⟨_, rfl⟩
  have hb_hb0 : w2.heap.size ≤ hb0 := by omega
  rw [← hhb0] at hb
  try simp only [← hhb0]
  generalize w2.alloc (.cells #[.int .u8 69, .int .u8 tos, .int .u16 (20 + (b.length : Int)), .int .u16 ident, .int .u16 (off / 8), .int .u8 ttl, .int .u8 pr, .int .u16 0, .int .u32 src, .int .u32 dst] 97) = w3 at hx hb ⊢
  clear hhb0
  have HX_w3 := Lib.hid hx
  clear hx
  have B_hb0 := Lib.hid hb
  clear hb
  clear cpb00 cpb01 cpb02 cpb03 cpb04 cpb05 cpb06 cpb07 cpb08 cpb09
  have cpb02 := row_cell (k := 2) (v := .bool true) ((HX_w3.out.block pb0 (row_lt B_pb0.out) id).trans B_pb0.out) rfl
  have chb04 := row_cell (k := 4) (v := .int .u16 (off / 8)) B_hb0.out rfl
  have fhb04 := row_frozen B_hb0.out 4
  go_upto_region 7 with fail
  have hb : (w3.setCell ⟨hb0, 4, none⟩ (.int .u16 (off / 8 + 16384))).heap[hb0]? = some (.cells #[.int .u8 69, .int .u8 tos, .int .u16 (20 + (b.length : Int)), .int .u16 ident, .int .u16 (off / 8 + 16384), .int .u8 ttl, .int .u8 pr, .int .u16 0, .int .u32 src, .int .u32 dst] 97) := (row_set B_hb0.out 4 (.int .u16 (off / 8 + 16384)))
  have hx : Ex (fun j => j = hb0) w3 (w3.setCell ⟨hb0, 4, none⟩ (.int .u16 (off / 8 + 16384))) := ((Ex.refl (fun j => j = hb0) w3).setCell (p := ⟨hb0, 4, none⟩) (.inl rfl) (.int .u16 (off / 8 + 16384)))
  clear cpb02 chb04 fhb04
  generalize (w3.setCell ⟨hb0, 4, none⟩ (.int .u16 (off / 8 + 16384))) = w4 at hx hb ⊢
  clear B_hb0
  have HX_w4 := Lib.hid hx
  clear hx
  have B_hb0 := Lib.hid hb
  clear hb
  have cpb03 := row_cell (k := 3) (v := .bool true) (((HX_w3.out.andThen HX_w4.out (fun i hi e => by have := hb_hb0; omega)).block pb0 (row_lt B_pb0.out) id).trans B_pb0.out) rfl
  have chb04 := row_cell (k := 4) (v := .int .u16 (off / 8 + 16384)) B_hb0.out rfl
  have fhb04 := row_frozen B_hb0.out 4
  go_upto_region 9 with fail
  have hb : (w4.setCell ⟨hb0, 4, none⟩ (.int .u16 (off / 8 + 16384 + 8192))).heap[hb0]? = some (.cells #[.int .u8 69, .int .u8 tos, .int .u16 (20 + (b.length : Int)), .int .u16 ident, .int .u16 (off / 8 + 16384 + 8192), .int .u8 ttl, .int .u8 pr, .int .u16 0, .int .u32 src, .int .u32 dst] 97) := (row_set B_hb0.out 4 (.int .u16 (off / 8 + 16384 + 8192)))
  have hx : Ex (fun j => j = hb0) w4 (w4.setCell ⟨hb0, 4, none⟩ (.int .u16 (off / 8 + 16384 + 8192))) := ((Ex.refl (fun j => j = hb0) w4).setCell (p := ⟨hb0, 4, none⟩) (.inl rfl) (.int .u16 (off / 8 + 16384 + 8192)))
  clear cpb03 chb04 fhb04
  generalize (w4.setCell ⟨hb0, 4, none⟩ (.int .u16 (off / 8 + 16384 + 8192))) = w5 at hx hb ⊢
  clear B_hb0
  have HX_w5 := Lib.hid hx
  clear hx
  have B_hb0 := Lib.hid hb
  clear hb
  clear j1 j2 j3
  have chb00 := row_cell (k := 0) (v := .int .u8 69) B_hb0.out rfl
  have chb01 := row_cell (k := 1) (v := .int .u8 tos) B_hb0.out rfl
  have chb02 := row_cell (k := 2) (v := .int .u16 (20 + (b.length : Int))) B_hb0.out rfl
  have chb03 := row_cell (k := 3) (v := .int .u16 ident) B_hb0.out rfl
  have chb04 := row_cell (k := 4) (v := .int .u16 (off / 8 + 16384 + 8192)) B_hb0.out rfl
  have chb05 := row_cell (k := 5) (v := .int .u8 ttl) B_hb0.out rfl
  have chb06 := row_cell (k := 6) (v := .int .u8 pr) B_hb0.out rfl
  have chb07 := row_cell (k := 7) (v := .int .u16 0) B_hb0.out rfl
  have chb08 := row_cell (k := 8) (v := .int .u32 src) B_hb0.out rfl
  have chb09 := row_cell (k := 9) (v := .int .u32 dst) B_hb0.out rfl
  go_wp2_with fail
  refine (hbytes_any 69 tos (20 + (b.length : Int)) ident (off / 8 + 16384 + 8192) ttl pr 0 src dst ⟨by decide, by decide⟩ ⟨o00, o01⟩ ⟨by omega, by omega⟩ ⟨o10, o11⟩ ⟨by omega, by omega⟩ ⟨o30, o31⟩ ⟨o40, o41⟩ ⟨by omega, by omega⟩ ⟨o50, o51⟩ ⟨o60, o61⟩ w5).mono ?_
  rintro e w6 ⟨A6, c6, rfl, ho, hx⟩
  have HX_w6 := Lib.hid hx
  clear hx
  have HO6 := Lib.hid ho
  clear ho chb00 chb01 chb02 chb03 chb04 chb05 chb06 chb07 chb08 chb09
  obtain ⟨s, hs, hs1⟩ : ∃ s : Nat, s = (⟨tos, ident, true, true, off, ttl, pr, src, dst, b⟩ : Pk).sum ∧ s ≤ 65535 := ⟨_, rfl, by have := Pk.sum_le (⟨tos, ident, true, true, off, ttl, pr, src, dst, b⟩ : Pk); omega⟩
  have hs2 : su ((⟨69, tos, 20 + (b.length : Int), ident, off / 8 + 16384 + 8192, ttl, pr, 0, src, dst⟩ : Hd)).bytes = s := by
    rw [hs, ← HBITS.out]
    rfl
  have HS := Lib.hid hs
  clear hs
  go_wp2_with fail
  refine (sum1_any _ _ _ w6 _ _ rfl HO6.out.rb.any (by rw [Hd.bytes_len]; omega)).mono ?_
  rintro e w7 ⟨rfl, hw7⟩
  rw [hs2]
  have hx : Ex (fun _ => False) w6 w7 := by rw [← hw7]; exact (Ex.refl _ w6).alloc _
  try rw [hw7]
  clear hs2 hw7
  have HX_w7 := Lib.hid hx
  clear hx
  have chb07 := row_cell (k := 7) (v := .int .u16 0) (((HX_w6.out.trans HX_w7.out).block hb0 (row_lt B_hb0.out) id).trans B_hb0.out) rfl
  have fhb07 := row_frozen (((HX_w6.out.trans HX_w7.out).block hb0 (row_lt B_hb0.out) id).trans B_hb0.out) 7
  go_upto_region 10 with fail
  replace B_hb0 := Lib.hid (((HX_w6.out.trans HX_w7.out).block hb0 (row_lt B_hb0.out) id).trans B_hb0.out)
  have hb : (w7.setCell ⟨hb0, 7, none⟩ (.int .u16 (s : Int))).heap[hb0]? = some (.cells #[.int .u8 69, .int .u8 tos, .int .u16 (20 + (b.length : Int)), .int .u16 ident, .int .u16 (off / 8 + 16384 + 8192), .int .u8 ttl, .int .u8 pr, .int .u16 (s : Int), .int .u32 src, .int .u32 dst] 97) := (row_set B_hb0.out 7 (.int .u16 (s : Int)))
  have hx : Ex (fun j => j = hb0) w7 (w7.setCell ⟨hb0, 7, none⟩ (.int .u16 (s : Int))) := ((Ex.refl (fun j => j = hb0) w7).setCell (p := ⟨hb0, 7, none⟩) (.inl rfl) (.int .u16 (s : Int)))
  clear chb07 fhb07
  generalize (w7.setCell ⟨hb0, 7, none⟩ (.int .u16 (s : Int))) = w8 at hx hb ⊢
  clear B_hb0
  have HX_w8 := Lib.hid hx
  clear hx
  have B_hb0 := Lib.hid hb
  clear hb
  have chb00 := row_cell (k := 0) (v := .int .u8 69) B_hb0.out rfl
  have chb01 := row_cell (k := 1) (v := .int .u8 tos) B_hb0.out rfl
  have chb02 := row_cell (k := 2) (v := .int .u16 (20 + (b.length : Int))) B_hb0.out rfl
  have chb03 := row_cell (k := 3) (v := .int .u16 ident) B_hb0.out rfl
  have chb04 := row_cell (k := 4) (v := .int .u16 (off / 8 + 16384 + 8192)) B_hb0.out rfl
  have chb05 := row_cell (k := 5) (v := .int .u8 ttl) B_hb0.out rfl
  have chb06 := row_cell (k := 6) (v := .int .u8 pr) B_hb0.out rfl
  have chb07 := row_cell (k := 7) (v := .int .u16 (s : Int)) B_hb0.out rfl
  have chb08 := row_cell (k := 8) (v := .int .u32 src) B_hb0.out rfl
  have chb09 := row_cell (k := 9) (v := .int .u32 dst) B_hb0.out rfl
  have cpb09 := row_cell (k := 9) (v := .slice A b.length c) (((((((HX_w3.out.andThen HX_w4.out (fun i hi e => by have := hb_hb0; omega)).andThen HX_w5.out (fun i hi e => by have := hb_hb0; omega)).trans HX_w6.out).trans HX_w7.out).andThen HX_w8.out (fun i hi e => by have := hb_hb0; omega)).block pb0 (row_lt B_pb0.out) id).trans B_pb0.out) rfl
  have hS0 : Ex (fun _ => False) w8 w8.drew := (Ex.refl _ w8).drew
  have hrb := (RB.keep HR.out (((((((HX_w1.out.trans HX_w2.out).trans HX_w3.out).andThen HX_w4.out (fun i hi e => by have := (HX_w1.out.trans HX_w2.out).size; have := hb_hb0; omega)).andThen HX_w5.out (fun i hi e => by have := (HX_w1.out.trans HX_w2.out).size; have := hb_hb0; omega)).trans HX_w6.out).trans HX_w7.out).andThen HX_w8.out (fun i hi e => by have := (HX_w1.out.trans HX_w2.out).size; have := hb_hb0; omega)) (fun _ _ _ => id))
  have HRB := Lib.hid hrb
  clear hrb
  have hlen : (⟨69, tos, 20 + (b.length : Int), ident, off / 8 + 16384 + 8192, ttl, pr, (s : Int), src, dst⟩ : Hd).bytes.length = 20 := rfl
  have HLEN := Lib.hid hlen
  clear hlen
  refine wp_region_held_drew (S := fun W => Ex (fun _ => False) w8 W) (by kernel_rfl) hS0 (fun _ => ?_)
  refine wpAnyH_take (i := 0) (oi := { dst := some 50, op := Go.Op.load 97 (Go.Operand.tmp 5), type := 97, pos := "ipv4.go:142", after := #[], guard := none }) (v := ?v16) rfl (by kernel_rfl) (by kernel_rfl) (by kernel_rfl) (fun _ _ _ h => h) (Or.inl ⟨by rfl, ?hy16⟩) (by assumption) ?rest16
  case hy16 => (intro w hSw; (try dsimp only at hSw); have e0 := hSw.cell chb00 id; have e1 := hSw.cell chb01 id; have e2 := hSw.cell chb02 id; have e3 := hSw.cell chb03 id; have e4 := hSw.cell chb04 id; have e5 := hSw.cell chb05 id; have e6 := hSw.cell chb06 id; have e7 := hSw.cell chb07 id; have e8 := hSw.cell chb08 id; have e9 := hSw.cell chb09 id; have e10 := hSw.cell cpb09 id; go_simp <;> with_reducible rfl)
  try simp only [Act.put, List.setIfInBounds_toArray, List.set_cons_zero, List.set_cons_succ]
  refine wpAnyH_take (i := 2) (oi := { dst := some 52, op := Go.Op.fieldAddr 51 (Go.Operand.tmp 1) 9, type := 0, pos := "ipv4.go:142", after := #[], guard := none }) (v := ?v17) rfl (by kernel_rfl) (by kernel_rfl) (by kernel_rfl) (fun _ _ _ h => h) (Or.inl ⟨by rfl, ?hy17⟩) (by assumption) ?rest17
  case hy17 => (intro w hSw; (try dsimp only at hSw); have e0 := hSw.cell chb00 id; have e1 := hSw.cell chb01 id; have e2 := hSw.cell chb02 id; have e3 := hSw.cell chb03 id; have e4 := hSw.cell chb04 id; have e5 := hSw.cell chb05 id; have e6 := hSw.cell chb06 id; have e7 := hSw.cell chb07 id; have e8 := hSw.cell chb08 id; have e9 := hSw.cell chb09 id; have e10 := hSw.cell cpb09 id; go_simp <;> with_reducible rfl)
  try simp only [Act.put, List.setIfInBounds_toArray, List.set_cons_zero, List.set_cons_succ]
  refine wpAnyH_take (i := 3) (oi := { dst := some 53, op := Go.Op.load 22 (Go.Operand.tmp 52), type := 22, pos := "ipv4.go:142", after := #[{ on := 2, ground := Go.Ground.data }], guard := none }) (v := ?v18) rfl (by kernel_rfl) (by kernel_rfl) (by kernel_rfl) (fun _ _ _ h => h) (Or.inl ⟨by rfl, ?hy18⟩) (by assumption) ?rest18
  case hy18 => (intro w hSw; (try dsimp only at hSw); have e0 := hSw.cell chb00 id; have e1 := hSw.cell chb01 id; have e2 := hSw.cell chb02 id; have e3 := hSw.cell chb03 id; have e4 := hSw.cell chb04 id; have e5 := hSw.cell chb05 id; have e6 := hSw.cell chb06 id; have e7 := hSw.cell chb07 id; have e8 := hSw.cell chb08 id; have e9 := hSw.cell chb09 id; have e10 := hSw.cell cpb09 id; go_simp <;> with_reducible rfl)
  try simp only [Act.put, List.setIfInBounds_toArray, List.set_cons_zero, List.set_cons_succ]
  refine wpAnyH_ready (rs := [1]) (by kernel_rfl) (by simp) ?_
  refine AllReadyH.cons (o := { dst := some 51, op := Go.Op.call { callee := Go.Callee.value (Go.Operand.func 56), args := #[Go.Operand.tmp 50], argTypes := #[97] }, type := 22, pos := "ipv4.go:142", after := #[{ on := 0, ground := Go.Ground.data }], guard := none }) rfl (fun K hK => ?_) AllReadyH.nil
  go_simp
  refine (hbytes_any 69 tos (20 + (b.length : Int)) ident (off / 8 + 16384 + 8192) ttl pr (s : Int) src dst ⟨by decide, by decide⟩ ⟨o00, o01⟩ ⟨by omega, by omega⟩ ⟨o10, o11⟩ ⟨by omega, by omega⟩ ⟨o30, o31⟩ ⟨o40, o41⟩ ⟨by omega, by omega⟩ ⟨o50, o51⟩ ⟨o60, o61⟩ _).mono ?_
  rintro e w9 ⟨A9, c9, rfl, ho9, hx9⟩
  have hS1 := hS0.trans hx9
  have HO9 := Lib.hid (ho9.mono (show w8.heap.size ≤ w8.drew.heap.size from Nat.le_refl _))
  clear ho9
  refine hK.out _ _ hS1 (fun _ => ?_)
  refine wpAnyH_ready (rs := [4]) (by kernel_rfl) (by simp) ?_
  refine AllReadyH.cons (o := { dst := some 54, op := Go.Op.call { callee := Go.Callee.builtin Go.Builtin.append, args := #[Go.Operand.tmp 51, Go.Operand.tmp 53], argTypes := #[22, 22] }, type := 22, pos := "ipv4.go:142", after := #[{ on := 1, ground := Go.Ground.data }, { on := 3, ground := Go.Ground.data }, { on := 1, ground := Go.Ground.chain }], guard := none }) rfl (fun K hK => ?_) AllReadyH.nil
  refine step_append_ob i0 22 Tryd.underlying22 hi hz0 hz1 hz2 rfl (.tmp 51) (.tmp 53) rfl w8.heap.size (.slice (some A9) 20 c9) (⟨69, tos, 20 + (b.length : Int), ident, off / 8 + 16384 + 8192, ttl, pr, (s : Int), src, dst⟩ : Hd).bytes rfl P (.slice A b.length c) b rfl ?o1 ?o2 ?o3 ?o4 ?_
  case o1 => exact HO9.out
  case o2 => exact HRB.out.keep hS1 (fun _ _ _ => id)
  case o3 => rw [HLEN.out]; omega
  case o4 => exact hS1.size
  intro A2 c2 w10 ho3 hg3 hn3 hb3
  try simp only [Act.put, List.setIfInBounds_toArray, List.set_cons_zero, List.set_cons_succ]
  have hS2 := hS1.grown hg3 (fun k hk => .inr (HO9.out.lt k hk).1)
  refine hK.out _ _ hS2 (fun _ => ?_)
  refine wpAnyH_take (i := 5) (oi := { dst := some 2, op := Go.Op.assign (Go.Operand.tmp 54), type := 22, pos := "ipv4.go:142", after := #[{ on := 4, ground := Go.Ground.data }, { on := 4, ground := Go.Ground.chain }, { on := 0, ground := Go.Ground.phase }, { on := 1, ground := Go.Ground.phase }, { on := 2, ground := Go.Ground.phase }, { on := 3, ground := Go.Ground.phase }, { on := 4, ground := Go.Ground.phase }], guard := none }) (v := ?v19) rfl (by kernel_rfl) (by kernel_rfl) (by kernel_rfl) (fun _ _ _ h => h) (Or.inl ⟨by rfl, ?hy19⟩) (by assumption) ?rest19
  case hy19 => (intro w hSw; (try dsimp only at hSw); have e0 := hSw.cell chb00 id; have e1 := hSw.cell chb01 id; have e2 := hSw.cell chb02 id; have e3 := hSw.cell chb03 id; have e4 := hSw.cell chb04 id; have e5 := hSw.cell chb05 id; have e6 := hSw.cell chb06 id; have e7 := hSw.cell chb07 id; have e8 := hSw.cell chb08 id; have e9 := hSw.cell chb09 id; have e10 := hSw.cell cpb09 id; go_simp <;> with_reducible rfl)
  try simp only [Act.put, List.setIfInBounds_toArray, List.set_cons_zero, List.set_cons_succ]
  refine wpAnyH_take (i := 6) (oi := { dst := some 3, op := Go.Op.assign (Go.Operand.const Go.Value.nilIface), type := 29, pos := "ipv4.go:142", after := #[{ on := 5, ground := Go.Ground.chain }, { on := 0, ground := Go.Ground.phase }, { on := 1, ground := Go.Ground.phase }, { on := 2, ground := Go.Ground.phase }, { on := 3, ground := Go.Ground.phase }, { on := 4, ground := Go.Ground.phase }, { on := 5, ground := Go.Ground.phase }], guard := none }) (v := ?v20) rfl (by kernel_rfl) (by kernel_rfl) (by kernel_rfl) (fun _ _ _ h => h) (Or.inl ⟨by rfl, ?hy20⟩) (by assumption) ?rest20
  case hy20 => (intro w hSw; (try dsimp only at hSw); have e0 := hSw.cell chb00 id; have e1 := hSw.cell chb01 id; have e2 := hSw.cell chb02 id; have e3 := hSw.cell chb03 id; have e4 := hSw.cell chb04 id; have e5 := hSw.cell chb05 id; have e6 := hSw.cell chb06 id; have e7 := hSw.cell chb07 id; have e8 := hSw.cell chb08 id; have e9 := hSw.cell chb09 id; have e10 := hSw.cell cpb09 id; go_simp <;> with_reducible rfl)
  try simp only [Act.put, List.setIfInBounds_toArray, List.set_cons_zero, List.set_cons_succ]
  refine wpAnyH_done (by kernel_rfl) ?_ _
  rw [HLEN.out] at ho3
  cases A2 with
  | none => exact absurd (hn3.1 rfl).1 (by simp)
  | some A2 =>
    have HO := Lib.hid ho3
    have HXX := Lib.hid ((((((((HX_w1.out.trans HX_w2.out).trans HX_w3.out).andThen HX_w4.out (fun i hi e => by have := (HX_w1.out.trans HX_w2.out).size; have := hb_hb0; omega)).andThen HX_w5.out (fun i hi e => by have := (HX_w1.out.trans HX_w2.out).size; have := hb_hb0; omega)).trans HX_w6.out).trans HX_w7.out).andThen HX_w8.out (fun i hi e => by have := (HX_w1.out.trans HX_w2.out).size; have := hb_hb0; omega)).trans hS2)
    have hz8 := (((((((HX_w1.out.trans HX_w2.out).trans HX_w3.out).andThen HX_w4.out (fun i hi e => by have := (HX_w1.out.trans HX_w2.out).size; have := hb_hb0; omega)).andThen HX_w5.out (fun i hi e => by have := (HX_w1.out.trans HX_w2.out).size; have := hb_hb0; omega)).trans HX_w6.out).trans HX_w7.out).andThen HX_w8.out (fun i hi e => by have := (HX_w1.out.trans HX_w2.out).size; have := hb_hb0; omega)).size
    clear ho3 hg3 hn3 hb3 hS0 hS1 hS2 hx9 chb00 chb01 chb02 chb03 chb04 chb05 chb06 chb07 chb08 chb09 cpb09
    go_wp2_with fail
    go_ret2
    have e : pb (⟨tos, ident, true, true, off, ttl, pr, src, dst, b⟩ : Pk) = (⟨69, tos, 20 + (b.length : Int), ident, off / 8 + 16384 + 8192, ttl, pr, (s : Int), src, dst⟩ : Hd).bytes ++ b := by
      rw [HS.out, ← HBITS.out]
      rfl
    rw [e]
    exact ⟨HXX.out, A2, c2, rfl, HO.out.mono hz8⟩
theorem pbytes_any (P : Nat → Prop) (p : Pk) (A : Option Addr) (c : Nat) (w : World) (ok : p.ok) (hr : RB w P (.slice A p.b.length c) p.b) (hn : p.b.length ≤ 1000000) :
    Calls Tryd.prog 29 #[pkv p (.slice A p.b.length c)] w fun e w' => Ex (fun _ => False) w w' ∧ ((p.right ≠ 0 ∧ ∃ v, e = .returned (.tuple #[.slice none 0 0, v]) ∧ EC w' (fun j => w.heap.size ≤ j) [lay5] v p.right) ∨
      (p.right = 0 ∧ ∃ A' c', e = .returned (.tuple #[.slice (some A') (pb p).length c', .nilIface]) ∧ OB w' w.heap.size (.slice (some A') (pb p).length c') (pb p))) := by
  have hl := pb_len p
  obtain ⟨tos, ident, df, mf, off, ttl, pr, src, dst, b⟩ := p
  simp only at hr hn hl
  by_cases h : (⟨tos, ident, df, mf, off, ttl, pr, src, dst, b⟩ : Pk).right = 0
  · rw [hl]
    cases df <;> cases mf
    · exact (pbytes_ff P tos ident off ttl pr src dst b A c w ok hr hn h).mono (fun e w' h' => ⟨h'.1, .inr ⟨h, h'.2⟩⟩)
    · exact (pbytes_ft P tos ident off ttl pr src dst b A c w ok hr hn h).mono (fun e w' h' => ⟨h'.1, .inr ⟨h, h'.2⟩⟩)
    · exact (pbytes_tf P tos ident off ttl pr src dst b A c w ok hr hn h).mono (fun e w' h' => ⟨h'.1, .inr ⟨h, h'.2⟩⟩)
    · exact (pbytes_tt P tos ident off ttl pr src dst b A c w ok hr hn h).mono (fun e w' h' => ⟨h'.1, .inr ⟨h, h'.2⟩⟩)
  · exact (pbytes_bad tos ident df mf off ttl pr src dst b A c w hn h).mono (fun e w' h' => ⟨h'.1, .inl ⟨h, h'.2⟩⟩)
end Go.Proofs.YtfcfpkhcpijkfaaDoor
