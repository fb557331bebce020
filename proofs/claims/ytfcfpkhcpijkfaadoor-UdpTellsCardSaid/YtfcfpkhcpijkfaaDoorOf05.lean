/-
  Packets of law 05: of, few, same. By an AI agent.
-/
import Derived.Test.YtfcfpkhcpijkfaaDoorIpA
import Derived.Test.YtfcfpkhcpijkfaaDoorWr05
import Derived.Laws.StructEq
namespace Go.Proofs.YtfcfpkhcpijkfaaDoor
open Go.RowKit

/-- the document's packet, as a value -/
def rpv (p : Pk) : Value := .agg #[.int .u32 p.tos, .int .u32 p.id, .bool p.df, .bool p.mf, .int .i64 p.off, .int .u32 p.ttl, .int .u32 p.pr, .int .u32 p.src, .int .u32 p.dst, .string (bs p.b)]
theorem rp_size : (Tryd.prog.info? 55).map (·.size) = some 10 := by kernel_rfl
/-- are two packets the same -/
def Pk.eqB (p q : Pk) : Bool := decide (p.tos = q.tos) && (decide (p.id = q.id) && (decide (p.df = q.df) && (decide (p.mf = q.mf) && (decide (p.off = q.off) && (decide (p.ttl = q.ttl) && (decide (p.pr = q.pr) && (decide (p.src = q.src) && (decide (p.dst = q.dst) && decide ((bs p.b).toList = (bs q.b).toList)))))))))
theorem bs_toL (a b : List UInt8) (h : (bs a).toList = (bs b).toList) : a = b := by
  rw [ByteArray.toList_eq, ByteArray.toList_eq, bs_toList, bs_toList] at h
  exact h
theorem Pk.eqB_iff (p q : Pk) : p.eqB q = true ↔ p = q := by
  constructor
  · intro h
    unfold Pk.eqB at h
    simp only [Bool.and_eq_true, decide_eq_true_eq] at h
    obtain ⟨tos, ident, df, mf, off, ttl, pr, src, dst, b⟩ := p
    obtain ⟨tos', ident', df', mf', off', ttl', pr', src', dst', b'⟩ := q
    obtain ⟨h0, h1, h2, h3, h4, h5, h6, h7, h8, h9⟩ := h
    simp only at h0 h1 h2 h3 h4 h5 h6 h7 h8 h9
    rw [h0, h1, h2, h3, h4, h5, h6, h7, h8, bs_toL b b' h9]
  · intro h
    subst h
    simp [Pk.eqB]
theorem Pk.eqB_self (p : Pk) : p.eqB p = true := (p.eqB_iff p).2 rfl
theorem Pk.eqB_no {p q : Pk} (h : p ≠ q) : p.eqB q = false := by
  rw [Bool.eq_false_iff]; exact fun h' => h ((p.eqB_iff q).1 h')
set_option maxRecDepth 100000 in
set_option maxHeartbeats 2000000 in
theorem of5_any (P : Nat → Prop) (p : Pk) (A : Option Addr) (c : Nat) (w : World) (ok : p.ok) (hr : RB w P (.slice A p.b.length c) p.b) :
    Calls Tryd.prog 27 #[pkv p (.slice A p.b.length c)] w fun e w' => e = .returned (rpv p) ∧ Ex (fun _ => False) w w' := by
  obtain ⟨tos, ident, df, mf, off, ttl, pr, src, dst, b⟩ := p
  obtain ⟨o0, o1, o2, o3, o4, o5, o6⟩ := ok
  simp only at o0 o1 o2 o3 o4 o5 o6 hr
  obtain ⟨o00, o01⟩ := o0
  obtain ⟨o10, o11⟩ := o1
  obtain ⟨o20, o21⟩ := o2
  obtain ⟨o30, o31⟩ := o3
  obtain ⟨o40, o41⟩ := o4
  obtain ⟨o50, o51⟩ := o5
  obtain ⟨o60, o61⟩ := o6
  have HR := Lib.hid hr
  clear hr
  show Calls Tryd.prog 27 #[.agg #[.int .u8 tos, .int .u16 ident, .bool df, .bool mf, .int .i64 off, .int .u8 ttl, .int .u8 pr, .int .u32 src, .int .u32 dst, .slice A b.length c]] w fun e w' => e = .returned (.agg #[.int .u32 tos, .int .u32 ident, .bool df, .bool mf, .int .i64 off, .int .u32 ttl, .int .u32 pr, .int .u32 src, .int .u32 dst, .string (bs b)]) ∧ Ex (fun _ => False) w w'
  go_enter Tryd.func27, Tryd.ntmps27
  go_upto_region 1 with fail
  have hx : Ex (fun _ => False) w (w.alloc (.cells #[.int .u8 tos, .int .u16 ident, .bool df, .bool mf, .int .i64 off, .int .u8 ttl, .int .u8 pr, .int .u32 src, .int .u32 dst, .slice A b.length c] 51)) := (Ex.refl _ w).alloc _
  have hb : (w.alloc (.cells #[.int .u8 tos, .int .u16 ident, .bool df, .bool mf, .int .i64 off, .int .u8 ttl, .int .u8 pr, .int .u32 src, .int .u32 dst, .slice A b.length c] 51)).heap[w.heap.size]? = some (.cells #[.int .u8 tos, .int .u16 ident, .bool df, .bool mf, .int .i64 off, .int .u8 ttl, .int .u8 pr, .int .u32 src, .int .u32 dst, .slice A b.length c] 51) := heap_alloc_new w _
  have hs1 : (w.alloc (.cells #[.int .u8 tos, .int .u16 ident, .bool df, .bool mf, .int .i64 off, .int .u8 ttl, .int .u8 pr, .int .u32 src, .int .u32 dst, .slice A b.length c] 51)).heap.size = w.heap.size + 1 := by simp
  obtain ⟨pb0, hpb0⟩ : ∃ pb0, pb0 = w.heap.size := ⟨_, rfl⟩
  have hb_pb0 : w.heap.size ≤ pb0 := by omega
  rw [← hpb0] at hb hs1 
  try simp only [← hpb0]
  generalize w.alloc (.cells #[.int .u8 tos, .int .u16 ident, .bool df, .bool mf, .int .i64 off, .int .u8 ttl, .int .u8 pr, .int .u32 src, .int .u32 dst, .slice A b.length c] 51) = w1 at hx hb  hs1 ⊢
  try simp only [← hs1]
  clear hs1
  clear hpb0
  have HX_w1 := Lib.hid hx
  clear hx
  have B_pb0 := Lib.hid hb
  clear hb
  have hx : Ex (fun _ => False) w1 (w1.alloc (.cells #[.int .u32 0, .int .u32 0, .bool false, .bool false, .int .i64 0, .int .u32 0, .int .u32 0, .int .u32 0, .int .u32 0, .string ⟨#[]⟩] 55)) := (Ex.refl _ w1).alloc _
  have hb : (w1.alloc (.cells #[.int .u32 0, .int .u32 0, .bool false, .bool false, .int .i64 0, .int .u32 0, .int .u32 0, .int .u32 0, .int .u32 0, .string ⟨#[]⟩] 55)).heap[w1.heap.size]? = some (.cells #[.int .u32 0, .int .u32 0, .bool false, .bool false, .int .i64 0, .int .u32 0, .int .u32 0, .int .u32 0, .int .u32 0, .string ⟨#[]⟩] 55) := heap_alloc_new w1 _
  obtain ⟨rb, hrb⟩ : ∃ rb, rb = w1.heap.size := ⟨_, rfl⟩
  have hb_rb : w1.heap.size ≤ rb := by omega
  rw [← hrb] at hb
  try simp only [← hrb]
  generalize w1.alloc (.cells #[.int .u32 0, .int .u32 0, .bool false, .bool false, .int .i64 0, .int .u32 0, .int .u32 0, .int .u32 0, .int .u32 0, .string ⟨#[]⟩] 55) = w2 at hx hb ⊢
  clear hrb
  have HX_w2 := Lib.hid hx
  clear hx
  have B_rb := Lib.hid hb
  clear hb
  replace B_pb0 := Lib.hid ((HX_w2.out.block pb0 (row_lt B_pb0.out) id).trans B_pb0.out)
  have cpb00 := row_cell (k := 0) (v := .int .u8 tos) B_pb0.out rfl
  have cpb01 := row_cell (k := 1) (v := .int .u16 ident) B_pb0.out rfl
  have cpb02 := row_cell (k := 2) (v := .bool df) B_pb0.out rfl
  have cpb03 := row_cell (k := 3) (v := .bool mf) B_pb0.out rfl
  have cpb04 := row_cell (k := 4) (v := .int .i64 off) B_pb0.out rfl
  have cpb05 := row_cell (k := 5) (v := .int .u8 ttl) B_pb0.out rfl
  have cpb06 := row_cell (k := 6) (v := .int .u8 pr) B_pb0.out rfl
  have cpb07 := row_cell (k := 7) (v := .int .u32 src) B_pb0.out rfl
  have cpb08 := row_cell (k := 8) (v := .int .u32 dst) B_pb0.out rfl
  have cpb09 := row_cell (k := 9) (v := .slice A b.length c) B_pb0.out rfl
  have frb0 := row_frozen B_rb.out 0
  have frb1 := row_frozen B_rb.out 1
  have frb2 := row_frozen B_rb.out 2
  have frb3 := row_frozen B_rb.out 3
  have frb4 := row_frozen B_rb.out 4
  have frb5 := row_frozen B_rb.out 5
  have frb6 := row_frozen B_rb.out 6
  have frb7 := row_frozen B_rb.out 7
  have frb8 := row_frozen B_rb.out 8
  have frb9 := row_frozen B_rb.out 9
  have crb0 := row_cell (k := 0) (v := .int .u32 0) B_rb.out rfl
  have crb1 := row_cell (k := 1) (v := .int .u32 0) B_rb.out rfl
  have crb2 := row_cell (k := 2) (v := .bool false) B_rb.out rfl
  have crb3 := row_cell (k := 3) (v := .bool false) B_rb.out rfl
  have crb4 := row_cell (k := 4) (v := .int .i64 0) B_rb.out rfl
  have crb5 := row_cell (k := 5) (v := .int .u32 0) B_rb.out rfl
  have crb6 := row_cell (k := 6) (v := .int .u32 0) B_rb.out rfl
  have crb7 := row_cell (k := 7) (v := .int .u32 0) B_rb.out rfl
  have crb8 := row_cell (k := 8) (v := .int .u32 0) B_rb.out rfl
  have crb9 := row_cell (k := 9) (v := .string ⟨#[]⟩) B_rb.out rfl
  have hcv := ((RB.keep HR.out (HX_w1.out.trans HX_w2.out) (fun _ _ _ => id))).str (Pr := Tryd.prog) 22 9 5 Tryd.underlying22 Tryd.underlying5 Tryd.underlying9
  go_wp2_with fail
  (try simp only [Exit.inBlock, Exit.then])
  clear hcv cpb00 cpb01 cpb02 cpb03 cpb04 cpb05 cpb06 cpb07 cpb08 cpb09
  have r0 : (w2.setCell ⟨rb, 0, none⟩ (.int .u32 tos)).heap[rb]? = some (.cells #[.int .u32 tos, .int .u32 0, .bool false, .bool false, .int .i64 0, .int .u32 0, .int .u32 0, .int .u32 0, .int .u32 0, .string ⟨#[]⟩] 55) := row_set B_rb.out 0 (.int .u32 tos)
  have r1 : ((w2.setCell ⟨rb, 0, none⟩ (.int .u32 tos)).setCell ⟨rb, 1, none⟩ (.int .u32 ident)).heap[rb]? = some (.cells #[.int .u32 tos, .int .u32 ident, .bool false, .bool false, .int .i64 0, .int .u32 0, .int .u32 0, .int .u32 0, .int .u32 0, .string ⟨#[]⟩] 55) := row_set r0 1 (.int .u32 ident)
  clear r0
  have r2 : (((w2.setCell ⟨rb, 0, none⟩ (.int .u32 tos)).setCell ⟨rb, 1, none⟩ (.int .u32 ident)).setCell ⟨rb, 2, none⟩ (.bool df)).heap[rb]? = some (.cells #[.int .u32 tos, .int .u32 ident, .bool df, .bool false, .int .i64 0, .int .u32 0, .int .u32 0, .int .u32 0, .int .u32 0, .string ⟨#[]⟩] 55) := row_set r1 2 (.bool df)
  clear r1
  have r3 : ((((w2.setCell ⟨rb, 0, none⟩ (.int .u32 tos)).setCell ⟨rb, 1, none⟩ (.int .u32 ident)).setCell ⟨rb, 2, none⟩ (.bool df)).setCell ⟨rb, 3, none⟩ (.bool mf)).heap[rb]? = some (.cells #[.int .u32 tos, .int .u32 ident, .bool df, .bool mf, .int .i64 0, .int .u32 0, .int .u32 0, .int .u32 0, .int .u32 0, .string ⟨#[]⟩] 55) := row_set r2 3 (.bool mf)
  clear r2
  have r4 : (((((w2.setCell ⟨rb, 0, none⟩ (.int .u32 tos)).setCell ⟨rb, 1, none⟩ (.int .u32 ident)).setCell ⟨rb, 2, none⟩ (.bool df)).setCell ⟨rb, 3, none⟩ (.bool mf)).setCell ⟨rb, 4, none⟩ (.int .i64 off)).heap[rb]? = some (.cells #[.int .u32 tos, .int .u32 ident, .bool df, .bool mf, .int .i64 off, .int .u32 0, .int .u32 0, .int .u32 0, .int .u32 0, .string ⟨#[]⟩] 55) := row_set r3 4 (.int .i64 off)
  clear r3
  have r5 : ((((((w2.setCell ⟨rb, 0, none⟩ (.int .u32 tos)).setCell ⟨rb, 1, none⟩ (.int .u32 ident)).setCell ⟨rb, 2, none⟩ (.bool df)).setCell ⟨rb, 3, none⟩ (.bool mf)).setCell ⟨rb, 4, none⟩ (.int .i64 off)).setCell ⟨rb, 5, none⟩ (.int .u32 ttl)).heap[rb]? = some (.cells #[.int .u32 tos, .int .u32 ident, .bool df, .bool mf, .int .i64 off, .int .u32 ttl, .int .u32 0, .int .u32 0, .int .u32 0, .string ⟨#[]⟩] 55) := row_set r4 5 (.int .u32 ttl)
  clear r4
  have r6 : (((((((w2.setCell ⟨rb, 0, none⟩ (.int .u32 tos)).setCell ⟨rb, 1, none⟩ (.int .u32 ident)).setCell ⟨rb, 2, none⟩ (.bool df)).setCell ⟨rb, 3, none⟩ (.bool mf)).setCell ⟨rb, 4, none⟩ (.int .i64 off)).setCell ⟨rb, 5, none⟩ (.int .u32 ttl)).setCell ⟨rb, 6, none⟩ (.int .u32 pr)).heap[rb]? = some (.cells #[.int .u32 tos, .int .u32 ident, .bool df, .bool mf, .int .i64 off, .int .u32 ttl, .int .u32 pr, .int .u32 0, .int .u32 0, .string ⟨#[]⟩] 55) := row_set r5 6 (.int .u32 pr)
  clear r5
  have r7 : ((((((((w2.setCell ⟨rb, 0, none⟩ (.int .u32 tos)).setCell ⟨rb, 1, none⟩ (.int .u32 ident)).setCell ⟨rb, 2, none⟩ (.bool df)).setCell ⟨rb, 3, none⟩ (.bool mf)).setCell ⟨rb, 4, none⟩ (.int .i64 off)).setCell ⟨rb, 5, none⟩ (.int .u32 ttl)).setCell ⟨rb, 6, none⟩ (.int .u32 pr)).setCell ⟨rb, 7, none⟩ (.int .u32 src)).heap[rb]? = some (.cells #[.int .u32 tos, .int .u32 ident, .bool df, .bool mf, .int .i64 off, .int .u32 ttl, .int .u32 pr, .int .u32 src, .int .u32 0, .string ⟨#[]⟩] 55) := row_set r6 7 (.int .u32 src)
  clear r6
  have r8 : (((((((((w2.setCell ⟨rb, 0, none⟩ (.int .u32 tos)).setCell ⟨rb, 1, none⟩ (.int .u32 ident)).setCell ⟨rb, 2, none⟩ (.bool df)).setCell ⟨rb, 3, none⟩ (.bool mf)).setCell ⟨rb, 4, none⟩ (.int .i64 off)).setCell ⟨rb, 5, none⟩ (.int .u32 ttl)).setCell ⟨rb, 6, none⟩ (.int .u32 pr)).setCell ⟨rb, 7, none⟩ (.int .u32 src)).setCell ⟨rb, 8, none⟩ (.int .u32 dst)).heap[rb]? = some (.cells #[.int .u32 tos, .int .u32 ident, .bool df, .bool mf, .int .i64 off, .int .u32 ttl, .int .u32 pr, .int .u32 src, .int .u32 dst, .string ⟨#[]⟩] 55) := row_set r7 8 (.int .u32 dst)
  clear r7
  have r9 : ((((((((((w2.setCell ⟨rb, 0, none⟩ (.int .u32 tos)).setCell ⟨rb, 1, none⟩ (.int .u32 ident)).setCell ⟨rb, 2, none⟩ (.bool df)).setCell ⟨rb, 3, none⟩ (.bool mf)).setCell ⟨rb, 4, none⟩ (.int .i64 off)).setCell ⟨rb, 5, none⟩ (.int .u32 ttl)).setCell ⟨rb, 6, none⟩ (.int .u32 pr)).setCell ⟨rb, 7, none⟩ (.int .u32 src)).setCell ⟨rb, 8, none⟩ (.int .u32 dst)).setCell ⟨rb, 9, none⟩ (.string (bs b))).heap[rb]? = some (.cells #[.int .u32 tos, .int .u32 ident, .bool df, .bool mf, .int .i64 off, .int .u32 ttl, .int .u32 pr, .int .u32 src, .int .u32 dst, .string (bs b)] 55) := row_set r8 9 (.string (bs b))
  clear r8
  have hx : Ex (fun j => j = rb) w2 ((((((((((w2.setCell ⟨rb, 0, none⟩ (.int .u32 tos)).setCell ⟨rb, 1, none⟩ (.int .u32 ident)).setCell ⟨rb, 2, none⟩ (.bool df)).setCell ⟨rb, 3, none⟩ (.bool mf)).setCell ⟨rb, 4, none⟩ (.int .i64 off)).setCell ⟨rb, 5, none⟩ (.int .u32 ttl)).setCell ⟨rb, 6, none⟩ (.int .u32 pr)).setCell ⟨rb, 7, none⟩ (.int .u32 src)).setCell ⟨rb, 8, none⟩ (.int .u32 dst)).setCell ⟨rb, 9, none⟩ (.string (bs b))) := (((((((((((Ex.refl (fun j => j = rb) w2).setCell (p := ⟨rb, 0, none⟩) (.inl rfl) (.int .u32 tos)).setCell (p := ⟨rb, 1, none⟩) (.inl rfl) (.int .u32 ident)).setCell (p := ⟨rb, 2, none⟩) (.inl rfl) (.bool df)).setCell (p := ⟨rb, 3, none⟩) (.inl rfl) (.bool mf)).setCell (p := ⟨rb, 4, none⟩) (.inl rfl) (.int .i64 off)).setCell (p := ⟨rb, 5, none⟩) (.inl rfl) (.int .u32 ttl)).setCell (p := ⟨rb, 6, none⟩) (.inl rfl) (.int .u32 pr)).setCell (p := ⟨rb, 7, none⟩) (.inl rfl) (.int .u32 src)).setCell (p := ⟨rb, 8, none⟩) (.inl rfl) (.int .u32 dst)).setCell (p := ⟨rb, 9, none⟩) (.inl rfl) (.string (bs b)))
  clear frb0 frb1 frb2 frb3 frb4 frb5 frb6 frb7 frb8 frb9 crb0 crb1 crb2 crb3 crb4 crb5 crb6 crb7 crb8 crb9
  generalize ((((((((((w2.setCell ⟨rb, 0, none⟩ (.int .u32 tos)).setCell ⟨rb, 1, none⟩ (.int .u32 ident)).setCell ⟨rb, 2, none⟩ (.bool df)).setCell ⟨rb, 3, none⟩ (.bool mf)).setCell ⟨rb, 4, none⟩ (.int .i64 off)).setCell ⟨rb, 5, none⟩ (.int .u32 ttl)).setCell ⟨rb, 6, none⟩ (.int .u32 pr)).setCell ⟨rb, 7, none⟩ (.int .u32 src)).setCell ⟨rb, 8, none⟩ (.int .u32 dst)).setCell ⟨rb, 9, none⟩ (.string (bs b))) = wz at r9 hx ⊢
  have HROW := Lib.hid r9
  clear r9
  have HX_wz := Lib.hid hx
  clear hx
  refine bodyPost_ret (v := .agg #[.int .u32 tos, .int .u32 ident, .bool df, .bool mf, .int .i64 off, .int .u32 ttl, .int .u32 pr, .int .u32 src, .int .u32 dst, .string (bs b)]) ?_ rfl ⟨rfl, ((HX_w1.out.trans HX_w2.out).andThen HX_wz.out (fun i hi e => by have := HX_w1.out.size; have := hb_rb; omega))⟩
  exact results_cell_row (p := 2) rfl _ _ rb 55 #[.int .u32 tos, .int .u32 ident, .bool df, .bool mf, .int .i64 off, .int .u32 ttl, .int .u32 pr, .int .u32 src, .int .u32 dst, .string (bs b)] (0, 0) _ rfl HROW.out Tryd.underlying55 rfl rp_size
/-- at most so many bytes of a packet -/
def Pk.few (p : Pk) (n : Nat) : Pk := { p with b := p.b.take n }
theorem Pk.few_ok {p : Pk} (ok : p.ok) (n : Nat) : (p.few n).ok := ok
theorem Pk.few_len (p : Pk) (n : Nat) : (p.few n).b.length ≤ n := by show (p.b.take n).length ≤ n; rw [List.length_take]; omega
set_option maxRecDepth 100000 in
set_option maxHeartbeats 2000000 in
theorem few5_any (P : Nat → Prop) (p : Pk) (A : Option Addr) (c : Nat) (w : World) (hr : RB w P (.slice A p.b.length c) p.b) :
    Calls Tryd.prog 28 #[pkv p (.slice A p.b.length c)] w fun e w' => ∃ A' c', e = .returned (pkv (p.few 3000) (.slice (some A') (p.few 3000).b.length c')) ∧ OB w' w.heap.size (.slice (some A') (p.few 3000).b.length c') (p.few 3000).b ∧ Ex (fun _ => False) w w' := by
  obtain ⟨tos, ident, df, mf, off, ttl, pr, src, dst, b⟩ := p
  simp only at hr
  obtain ⟨i0, hi, hz0, hz1, hz2⟩ := info_parts Tryd.info5
  obtain ⟨l1, hk, hk1, hk2, hl1⟩ : ∃ l1 : List UInt8, (if 3000 < (b.length : Int) then (3000 : Int) else (b.length : Int)) = (l1.length : Int) ∧ l1.length ≤ b.length ∧ l1.length ≤ 3000 ∧ Hid (l1 = b.take 3000) := by
    refine ⟨b.take 3000, ?_, by simp; omega, by simp; omega, rfl⟩
    rw [List.length_take]; split <;> omega
  have hki : (l1.length : Int) ≤ (b.length : Int) := by omega
  have hbl : b.length ≤ c := by obtain ⟨_, _, _, e, h, _⟩ := hr; injection e with _ _ e3; rw [e3]; exact h
  have hlc : l1.length ≤ c := by omega
  have hr1 := hr.take 3000
  rw [← hl1.out] at hr1
  have HR := Lib.hid hr1
  clear hr hr1
  have hfw : (⟨tos, ident, df, mf, off, ttl, pr, src, dst, b⟩ : Pk).few 3000 = ⟨tos, ident, df, mf, off, ttl, pr, src, dst, l1⟩ := by rw [hl1.out]; rfl
  rw [hfw]
  clear hfw
  show Calls Tryd.prog 28 #[.agg #[.int .u8 tos, .int .u16 ident, .bool df, .bool mf, .int .i64 off, .int .u8 ttl, .int .u8 pr, .int .u32 src, .int .u32 dst, .slice A b.length c]] w fun e w' => ∃ A' c', e = .returned (.agg #[.int .u8 tos, .int .u16 ident, .bool df, .bool mf, .int .i64 off, .int .u8 ttl, .int .u8 pr, .int .u32 src, .int .u32 dst, .slice (some A') l1.length c']) ∧ OB w' w.heap.size (.slice (some A') l1.length c') l1 ∧ Ex (fun _ => False) w w'
  go_enter Tryd.func28, Tryd.ntmps28
  go_upto_region 1 with fail
  have hx : Ex (fun _ => False) w (w.alloc (.cells #[.int .u8 tos, .int .u16 ident, .bool df, .bool mf, .int .i64 off, .int .u8 ttl, .int .u8 pr, .int .u32 src, .int .u32 dst, .slice A b.length c] 51)) := (Ex.refl _ w).alloc _
  have hb : (w.alloc (.cells #[.int .u8 tos, .int .u16 ident, .bool df, .bool mf, .int .i64 off, .int .u8 ttl, .int .u8 pr, .int .u32 src, .int .u32 dst, .slice A b.length c] 51)).heap[w.heap.size]? = some (.cells #[.int .u8 tos, .int .u16 ident, .bool df, .bool mf, .int .i64 off, .int .u8 ttl, .int .u8 pr, .int .u32 src, .int .u32 dst, .slice A b.length c] 51) := heap_alloc_new w _
  have hs1 : (w.alloc (.cells #[.int .u8 tos, .int .u16 ident, .bool df, .bool mf, .int .i64 off, .int .u8 ttl, .int .u8 pr, .int .u32 src, .int .u32 dst, .slice A b.length c] 51)).heap.size = w.heap.size + 1 := by simp
  obtain ⟨pb0, hpb0⟩ : ∃ pb0, pb0 = w.heap.size := ⟨_, rfl⟩
  have hb_pb0 : w.heap.size ≤ pb0 := by omega
  rw [← hpb0] at hb hs1 
  try simp only [← hpb0]
  generalize w.alloc (.cells #[.int .u8 tos, .int .u16 ident, .bool df, .bool mf, .int .i64 off, .int .u8 ttl, .int .u8 pr, .int .u32 src, .int .u32 dst, .slice A b.length c] 51) = w1 at hx hb  hs1 ⊢
  try simp only [← hs1]
  clear hs1
  clear hpb0
  have HX_w1 := Lib.hid hx
  clear hx
  have B_pb0 := Lib.hid hb
  clear hb
  have hx : Ex (fun _ => False) w1 (w1.alloc (.cells #[.int .u8 0, .int .u16 0, .bool false, .bool false, .int .i64 0, .int .u8 0, .int .u8 0, .int .u32 0, .int .u32 0, .slice none 0 0] 51)) := (Ex.refl _ w1).alloc _
  have hb : (w1.alloc (.cells #[.int .u8 0, .int .u16 0, .bool false, .bool false, .int .i64 0, .int .u8 0, .int .u8 0, .int .u32 0, .int .u32 0, .slice none 0 0] 51)).heap[w1.heap.size]? = some (.cells #[.int .u8 0, .int .u16 0, .bool false, .bool false, .int .i64 0, .int .u8 0, .int .u8 0, .int .u32 0, .int .u32 0, .slice none 0 0] 51) := heap_alloc_new w1 _
  obtain ⟨rb, hrb⟩ : ∃ rb, rb = w1.heap.size := ⟨_, rfl⟩
  have hb_rb : w1.heap.size ≤ rb := by omega
  rw [← hrb] at hb
  try simp only [← hrb]
  generalize w1.alloc (.cells #[.int .u8 0, .int .u16 0, .bool false, .bool false, .int .i64 0, .int .u8 0, .int .u8 0, .int .u32 0, .int .u32 0, .slice none 0 0] 51) = w2 at hx hb ⊢
  clear hrb
  have HX_w2 := Lib.hid hx
  clear hx
  have B_rb := Lib.hid hb
  clear hb
  have hrbp := row_lt (show w1.heap[pb0]? = _ from B_pb0.out)
  have ne_rb_pb0 : rb ≠ pb0 := by omega
  clear hrbp
  have cpb09 := row_cell (k := 9) (v := .slice A b.length c) ((HX_w2.out.block pb0 (row_lt B_pb0.out) id).trans B_pb0.out) rfl
  have fpb09 := row_frozen ((HX_w2.out.block pb0 (row_lt B_pb0.out) id).trans B_pb0.out) 9
  have hq0 : (w2.alloc (.cells #[] 5)).heap[pb0]? = _ := (((Ex.refl (fun _ => False) w2).alloc (.cells #[] 5)).block pb0 (row_lt (show w2.heap[pb0]? = _ from ((HX_w2.out.block pb0 (row_lt B_pb0.out) id).trans B_pb0.out))) id).trans ((HX_w2.out.block pb0 (row_lt B_pb0.out) id).trans B_pb0.out)
  have c9a := row_cell (k := 9) (v := .slice A b.length c) hq0 rfl
  clear hq0
  have hrw := (RB.keep HR.out (HX_w1.out.trans HX_w2.out) (fun _ _ _ => id))
  have HRW := Lib.hid hrw
  clear hrw
  go_upto_region 2 with (at_builtin; refine wpList_append_ob i0 22 Tryd.underlying22 hi hz0 hz1 hz2 rfl (.tmp 3) (.tmp 10) rfl w2.heap.size (.slice (some ⟨w2.heap.size, 0, none⟩) 0 0) [] rfl P (.slice A l1.length c) l1 rfl (OB.lit w2 w2.heap.size [] (Nat.le_refl _) (by simp)) (HRW.out.alloc _) (by simp; omega) (by simp) ?_; intro A3 c3 w3 ho3 hg3 hn3 hb3; have hx3 : Ex (fun _ => False) w2 w3 := ((Ex.refl _ w2).alloc _).grown hg3 (fun k hk => .inr (by obtain rfl := Option.some.inj hk; exact Nat.le_refl _)); have hq := hx3.block pb0 (row_lt (show w2.heap[pb0]? = _ from ((HX_w2.out.block pb0 (row_lt B_pb0.out) id).trans B_pb0.out))) id; have hq2 := hq.trans (show w2.heap[pb0]? = _ from ((HX_w2.out.block pb0 (row_lt B_pb0.out) id).trans B_pb0.out)); have c9 := row_cell (k := 9) (v := .slice A b.length c) hq2 rfl; have f9 := row_frozen hq2 9; clear hq)
  clear cpb09 fpb09 c9a c9 f9
  cases A3 with
  | none => exact absurd (hn3.1 rfl).1 (by simp)
  | some A3 =>
    have hx := hx3
    have ho : OB w3 w2.heap.size (.slice (some A3) l1.length c3) l1 := by simpa using ho3
    clear hx3 hq2 hg3 hn3 hb3 ho3 hk
    have HX_w3 := Lib.hid hx
    clear hx
    have HO := Lib.hid ho
    clear ho
    try simp only [List.length_nil, Nat.zero_add]
    have hlb := row_lt B_rb.out
    have hpb2 := row_lt (show w2.heap[pb0]? = _ from ((HX_w2.out.block pb0 (row_lt B_pb0.out) id).trans B_pb0.out))
    replace B_pb0 := Lib.hid (((HX_w2.out.trans HX_w3.out).block pb0 (row_lt B_pb0.out) id).trans B_pb0.out)
    have hb : (w3.setCell ⟨pb0, 9, none⟩ (.slice (some A3) l1.length c3)).heap[pb0]? = some (.cells #[.int .u8 tos, .int .u16 ident, .bool df, .bool mf, .int .i64 off, .int .u8 ttl, .int .u8 pr, .int .u32 src, .int .u32 dst, .slice (some A3) l1.length c3] 51) := (row_set B_pb0.out 9 (.slice (some A3) l1.length c3))
    have hx : Ex (fun j => j = pb0) w3 (w3.setCell ⟨pb0, 9, none⟩ (.slice (some A3) l1.length c3)) := ((Ex.refl (fun j => j = pb0) w3).setCell (p := ⟨pb0, 9, none⟩) (.inl rfl) (.slice (some A3) l1.length c3))
    generalize (w3.setCell ⟨pb0, 9, none⟩ (.slice (some A3) l1.length c3)) = w4 at hx hb ⊢
    clear B_pb0
    have HX_w4 := Lib.hid hx
    clear hx
    have B_pb0 := Lib.hid hb
    clear hb
    have cpb00 := row_cell (k := 0) (v := .int .u8 tos) B_pb0.out rfl
    have cpb01 := row_cell (k := 1) (v := .int .u16 ident) B_pb0.out rfl
    have cpb02 := row_cell (k := 2) (v := .bool df) B_pb0.out rfl
    have cpb03 := row_cell (k := 3) (v := .bool mf) B_pb0.out rfl
    have cpb04 := row_cell (k := 4) (v := .int .i64 off) B_pb0.out rfl
    have cpb05 := row_cell (k := 5) (v := .int .u8 ttl) B_pb0.out rfl
    have cpb06 := row_cell (k := 6) (v := .int .u8 pr) B_pb0.out rfl
    have cpb07 := row_cell (k := 7) (v := .int .u32 src) B_pb0.out rfl
    have cpb08 := row_cell (k := 8) (v := .int .u32 dst) B_pb0.out rfl
    have cpb09 := row_cell (k := 9) (v := .slice (some A3) l1.length c3) B_pb0.out rfl
    have frb0 := row_frozen ((HX_w4.out.block rb (row_lt ((HX_w3.out.block rb (row_lt B_rb.out) id).trans B_rb.out)) ne_rb_pb0).trans ((HX_w3.out.block rb (row_lt B_rb.out) id).trans B_rb.out)) 0
    have frb1 := row_frozen ((HX_w4.out.block rb (row_lt ((HX_w3.out.block rb (row_lt B_rb.out) id).trans B_rb.out)) ne_rb_pb0).trans ((HX_w3.out.block rb (row_lt B_rb.out) id).trans B_rb.out)) 1
    have frb2 := row_frozen ((HX_w4.out.block rb (row_lt ((HX_w3.out.block rb (row_lt B_rb.out) id).trans B_rb.out)) ne_rb_pb0).trans ((HX_w3.out.block rb (row_lt B_rb.out) id).trans B_rb.out)) 2
    have frb3 := row_frozen ((HX_w4.out.block rb (row_lt ((HX_w3.out.block rb (row_lt B_rb.out) id).trans B_rb.out)) ne_rb_pb0).trans ((HX_w3.out.block rb (row_lt B_rb.out) id).trans B_rb.out)) 3
    have frb4 := row_frozen ((HX_w4.out.block rb (row_lt ((HX_w3.out.block rb (row_lt B_rb.out) id).trans B_rb.out)) ne_rb_pb0).trans ((HX_w3.out.block rb (row_lt B_rb.out) id).trans B_rb.out)) 4
    have frb5 := row_frozen ((HX_w4.out.block rb (row_lt ((HX_w3.out.block rb (row_lt B_rb.out) id).trans B_rb.out)) ne_rb_pb0).trans ((HX_w3.out.block rb (row_lt B_rb.out) id).trans B_rb.out)) 5
    have frb6 := row_frozen ((HX_w4.out.block rb (row_lt ((HX_w3.out.block rb (row_lt B_rb.out) id).trans B_rb.out)) ne_rb_pb0).trans ((HX_w3.out.block rb (row_lt B_rb.out) id).trans B_rb.out)) 6
    have frb7 := row_frozen ((HX_w4.out.block rb (row_lt ((HX_w3.out.block rb (row_lt B_rb.out) id).trans B_rb.out)) ne_rb_pb0).trans ((HX_w3.out.block rb (row_lt B_rb.out) id).trans B_rb.out)) 7
    have frb8 := row_frozen ((HX_w4.out.block rb (row_lt ((HX_w3.out.block rb (row_lt B_rb.out) id).trans B_rb.out)) ne_rb_pb0).trans ((HX_w3.out.block rb (row_lt B_rb.out) id).trans B_rb.out)) 8
    have frb9 := row_frozen ((HX_w4.out.block rb (row_lt ((HX_w3.out.block rb (row_lt B_rb.out) id).trans B_rb.out)) ne_rb_pb0).trans ((HX_w3.out.block rb (row_lt B_rb.out) id).trans B_rb.out)) 9
    replace B_rb := Lib.hid ((HX_w4.out.block rb (row_lt ((HX_w3.out.block rb (row_lt B_rb.out) id).trans B_rb.out)) ne_rb_pb0).trans ((HX_w3.out.block rb (row_lt B_rb.out) id).trans B_rb.out))
    have crb0 := row_cell (k := 0) (v := .int .u8 0) B_rb.out rfl
    have crb1 := row_cell (k := 1) (v := .int .u16 0) B_rb.out rfl
    have crb2 := row_cell (k := 2) (v := .bool false) B_rb.out rfl
    have crb3 := row_cell (k := 3) (v := .bool false) B_rb.out rfl
    have crb4 := row_cell (k := 4) (v := .int .i64 0) B_rb.out rfl
    have crb5 := row_cell (k := 5) (v := .int .u8 0) B_rb.out rfl
    have crb6 := row_cell (k := 6) (v := .int .u8 0) B_rb.out rfl
    have crb7 := row_cell (k := 7) (v := .int .u32 0) B_rb.out rfl
    have crb8 := row_cell (k := 8) (v := .int .u32 0) B_rb.out rfl
    have crb9 := row_cell (k := 9) (v := .slice none 0 0) B_rb.out rfl
    go_wp2_with fail
    (try simp only [Exit.inBlock, Exit.then])
    clear cpb00 cpb01 cpb02 cpb03 cpb04 cpb05 cpb06 cpb07 cpb08 cpb09
    have HO4 := Lib.hid (HO.out.keepB HX_w4.out (by omega))
    have r0 : (w4.setCell ⟨rb, 0, none⟩ (.int .u8 tos)).heap[rb]? = some (.cells #[.int .u8 tos, .int .u16 0, .bool false, .bool false, .int .i64 0, .int .u8 0, .int .u8 0, .int .u32 0, .int .u32 0, .slice none 0 0] 51) := row_set B_rb.out 0 (.int .u8 tos)
    have r1 : ((w4.setCell ⟨rb, 0, none⟩ (.int .u8 tos)).setCell ⟨rb, 1, none⟩ (.int .u16 ident)).heap[rb]? = some (.cells #[.int .u8 tos, .int .u16 ident, .bool false, .bool false, .int .i64 0, .int .u8 0, .int .u8 0, .int .u32 0, .int .u32 0, .slice none 0 0] 51) := row_set r0 1 (.int .u16 ident)
    clear r0
    have r2 : (((w4.setCell ⟨rb, 0, none⟩ (.int .u8 tos)).setCell ⟨rb, 1, none⟩ (.int .u16 ident)).setCell ⟨rb, 2, none⟩ (.bool df)).heap[rb]? = some (.cells #[.int .u8 tos, .int .u16 ident, .bool df, .bool false, .int .i64 0, .int .u8 0, .int .u8 0, .int .u32 0, .int .u32 0, .slice none 0 0] 51) := row_set r1 2 (.bool df)
    clear r1
    have r3 : ((((w4.setCell ⟨rb, 0, none⟩ (.int .u8 tos)).setCell ⟨rb, 1, none⟩ (.int .u16 ident)).setCell ⟨rb, 2, none⟩ (.bool df)).setCell ⟨rb, 3, none⟩ (.bool mf)).heap[rb]? = some (.cells #[.int .u8 tos, .int .u16 ident, .bool df, .bool mf, .int .i64 0, .int .u8 0, .int .u8 0, .int .u32 0, .int .u32 0, .slice none 0 0] 51) := row_set r2 3 (.bool mf)
    clear r2
    have r4 : (((((w4.setCell ⟨rb, 0, none⟩ (.int .u8 tos)).setCell ⟨rb, 1, none⟩ (.int .u16 ident)).setCell ⟨rb, 2, none⟩ (.bool df)).setCell ⟨rb, 3, none⟩ (.bool mf)).setCell ⟨rb, 4, none⟩ (.int .i64 off)).heap[rb]? = some (.cells #[.int .u8 tos, .int .u16 ident, .bool df, .bool mf, .int .i64 off, .int .u8 0, .int .u8 0, .int .u32 0, .int .u32 0, .slice none 0 0] 51) := row_set r3 4 (.int .i64 off)
    clear r3
    have r5 : ((((((w4.setCell ⟨rb, 0, none⟩ (.int .u8 tos)).setCell ⟨rb, 1, none⟩ (.int .u16 ident)).setCell ⟨rb, 2, none⟩ (.bool df)).setCell ⟨rb, 3, none⟩ (.bool mf)).setCell ⟨rb, 4, none⟩ (.int .i64 off)).setCell ⟨rb, 5, none⟩ (.int .u8 ttl)).heap[rb]? = some (.cells #[.int .u8 tos, .int .u16 ident, .bool df, .bool mf, .int .i64 off, .int .u8 ttl, .int .u8 0, .int .u32 0, .int .u32 0, .slice none 0 0] 51) := row_set r4 5 (.int .u8 ttl)
    clear r4
    have r6 : (((((((w4.setCell ⟨rb, 0, none⟩ (.int .u8 tos)).setCell ⟨rb, 1, none⟩ (.int .u16 ident)).setCell ⟨rb, 2, none⟩ (.bool df)).setCell ⟨rb, 3, none⟩ (.bool mf)).setCell ⟨rb, 4, none⟩ (.int .i64 off)).setCell ⟨rb, 5, none⟩ (.int .u8 ttl)).setCell ⟨rb, 6, none⟩ (.int .u8 pr)).heap[rb]? = some (.cells #[.int .u8 tos, .int .u16 ident, .bool df, .bool mf, .int .i64 off, .int .u8 ttl, .int .u8 pr, .int .u32 0, .int .u32 0, .slice none 0 0] 51) := row_set r5 6 (.int .u8 pr)
    clear r5
    have r7 : ((((((((w4.setCell ⟨rb, 0, none⟩ (.int .u8 tos)).setCell ⟨rb, 1, none⟩ (.int .u16 ident)).setCell ⟨rb, 2, none⟩ (.bool df)).setCell ⟨rb, 3, none⟩ (.bool mf)).setCell ⟨rb, 4, none⟩ (.int .i64 off)).setCell ⟨rb, 5, none⟩ (.int .u8 ttl)).setCell ⟨rb, 6, none⟩ (.int .u8 pr)).setCell ⟨rb, 7, none⟩ (.int .u32 src)).heap[rb]? = some (.cells #[.int .u8 tos, .int .u16 ident, .bool df, .bool mf, .int .i64 off, .int .u8 ttl, .int .u8 pr, .int .u32 src, .int .u32 0, .slice none 0 0] 51) := row_set r6 7 (.int .u32 src)
    clear r6
    have r8 : (((((((((w4.setCell ⟨rb, 0, none⟩ (.int .u8 tos)).setCell ⟨rb, 1, none⟩ (.int .u16 ident)).setCell ⟨rb, 2, none⟩ (.bool df)).setCell ⟨rb, 3, none⟩ (.bool mf)).setCell ⟨rb, 4, none⟩ (.int .i64 off)).setCell ⟨rb, 5, none⟩ (.int .u8 ttl)).setCell ⟨rb, 6, none⟩ (.int .u8 pr)).setCell ⟨rb, 7, none⟩ (.int .u32 src)).setCell ⟨rb, 8, none⟩ (.int .u32 dst)).heap[rb]? = some (.cells #[.int .u8 tos, .int .u16 ident, .bool df, .bool mf, .int .i64 off, .int .u8 ttl, .int .u8 pr, .int .u32 src, .int .u32 dst, .slice none 0 0] 51) := row_set r7 8 (.int .u32 dst)
    clear r7
    have r9 : ((((((((((w4.setCell ⟨rb, 0, none⟩ (.int .u8 tos)).setCell ⟨rb, 1, none⟩ (.int .u16 ident)).setCell ⟨rb, 2, none⟩ (.bool df)).setCell ⟨rb, 3, none⟩ (.bool mf)).setCell ⟨rb, 4, none⟩ (.int .i64 off)).setCell ⟨rb, 5, none⟩ (.int .u8 ttl)).setCell ⟨rb, 6, none⟩ (.int .u8 pr)).setCell ⟨rb, 7, none⟩ (.int .u32 src)).setCell ⟨rb, 8, none⟩ (.int .u32 dst)).setCell ⟨rb, 9, none⟩ (.slice (some A3) l1.length c3)).heap[rb]? = some (.cells #[.int .u8 tos, .int .u16 ident, .bool df, .bool mf, .int .i64 off, .int .u8 ttl, .int .u8 pr, .int .u32 src, .int .u32 dst, .slice (some A3) l1.length c3] 51) := row_set r8 9 (.slice (some A3) l1.length c3)
    clear r8
    have hx : Ex (fun j => j = rb) w4 ((((((((((w4.setCell ⟨rb, 0, none⟩ (.int .u8 tos)).setCell ⟨rb, 1, none⟩ (.int .u16 ident)).setCell ⟨rb, 2, none⟩ (.bool df)).setCell ⟨rb, 3, none⟩ (.bool mf)).setCell ⟨rb, 4, none⟩ (.int .i64 off)).setCell ⟨rb, 5, none⟩ (.int .u8 ttl)).setCell ⟨rb, 6, none⟩ (.int .u8 pr)).setCell ⟨rb, 7, none⟩ (.int .u32 src)).setCell ⟨rb, 8, none⟩ (.int .u32 dst)).setCell ⟨rb, 9, none⟩ (.slice (some A3) l1.length c3)) := (((((((((((Ex.refl (fun j => j = rb) w4).setCell (p := ⟨rb, 0, none⟩) (.inl rfl) (.int .u8 tos)).setCell (p := ⟨rb, 1, none⟩) (.inl rfl) (.int .u16 ident)).setCell (p := ⟨rb, 2, none⟩) (.inl rfl) (.bool df)).setCell (p := ⟨rb, 3, none⟩) (.inl rfl) (.bool mf)).setCell (p := ⟨rb, 4, none⟩) (.inl rfl) (.int .i64 off)).setCell (p := ⟨rb, 5, none⟩) (.inl rfl) (.int .u8 ttl)).setCell (p := ⟨rb, 6, none⟩) (.inl rfl) (.int .u8 pr)).setCell (p := ⟨rb, 7, none⟩) (.inl rfl) (.int .u32 src)).setCell (p := ⟨rb, 8, none⟩) (.inl rfl) (.int .u32 dst)).setCell (p := ⟨rb, 9, none⟩) (.inl rfl) (.slice (some A3) l1.length c3))
    clear frb0 frb1 frb2 frb3 frb4 frb5 frb6 frb7 frb8 frb9 crb0 crb1 crb2 crb3 crb4 crb5 crb6 crb7 crb8 crb9
    generalize ((((((((((w4.setCell ⟨rb, 0, none⟩ (.int .u8 tos)).setCell ⟨rb, 1, none⟩ (.int .u16 ident)).setCell ⟨rb, 2, none⟩ (.bool df)).setCell ⟨rb, 3, none⟩ (.bool mf)).setCell ⟨rb, 4, none⟩ (.int .i64 off)).setCell ⟨rb, 5, none⟩ (.int .u8 ttl)).setCell ⟨rb, 6, none⟩ (.int .u8 pr)).setCell ⟨rb, 7, none⟩ (.int .u32 src)).setCell ⟨rb, 8, none⟩ (.int .u32 dst)).setCell ⟨rb, 9, none⟩ (.slice (some A3) l1.length c3)) = wz at r9 hx ⊢
    have HROW := Lib.hid r9
    clear r9
    have HX_wz := Lib.hid hx
    clear hx
    have hz02 := (HX_w1.out.trans HX_w2.out).size
    refine bodyPost_ret (v := .agg #[.int .u8 tos, .int .u16 ident, .bool df, .bool mf, .int .i64 off, .int .u8 ttl, .int .u8 pr, .int .u32 src, .int .u32 dst, .slice (some A3) l1.length c3]) ?_ rfl ⟨A3, c3, rfl, (HO4.out.keepB HX_wz.out hlb).mono hz02, ((((HX_w1.out.trans HX_w2.out).trans HX_w3.out).andThen HX_w4.out (fun i hi e => by have := hb_pb0; omega)).andThen HX_wz.out (fun i hi e => by have := HX_w1.out.size; have := hb_rb; omega))⟩
    exact results_cell_row (p := 2) rfl _ _ rb 51 #[.int .u8 tos, .int .u16 ident, .bool df, .bool mf, .int .i64 off, .int .u8 ttl, .int .u8 pr, .int .u32 src, .int .u32 dst, .slice (some A3) l1.length c3] (0, 0) _ rfl HROW.out Tryd.underlying51 rfl pk_size
theorem rpv_eq (p q : Pk) (w : World) : (binOp .eql 55 (rpv p) (rpv q)).run Tryd.prog w = .ok (.bool (p.eqB q)) w := by
  unfold rpv Pk.eqB
  go_simp
  by_cases h0 : p.tos = q.tos
  case neg => rw [if_neg h0, decide_eq_false h0]; simp
  rw [if_pos h0, decide_eq_true h0]
  by_cases h1 : p.id = q.id
  case neg => rw [if_neg h1, decide_eq_false h1]; simp
  rw [if_pos h1, decide_eq_true h1]
  by_cases h2 : p.df = q.df
  case neg => rw [if_neg h2, decide_eq_false h2]; simp
  rw [if_pos h2, decide_eq_true h2]
  by_cases h3 : p.mf = q.mf
  case neg => rw [if_neg h3, decide_eq_false h3]; simp
  rw [if_pos h3, decide_eq_true h3]
  by_cases h4 : p.off = q.off
  case neg => rw [if_neg h4, decide_eq_false h4]; simp
  rw [if_pos h4, decide_eq_true h4]
  by_cases h5 : p.ttl = q.ttl
  case neg => rw [if_neg h5, decide_eq_false h5]; simp
  rw [if_pos h5, decide_eq_true h5]
  by_cases h6 : p.pr = q.pr
  case neg => rw [if_neg h6, decide_eq_false h6]; simp
  rw [if_pos h6, decide_eq_true h6]
  by_cases h7 : p.src = q.src
  case neg => rw [if_neg h7, decide_eq_false h7]; simp
  rw [if_pos h7, decide_eq_true h7]
  by_cases h8 : p.dst = q.dst
  case neg => rw [if_neg h8, decide_eq_false h8]; simp
  rw [if_pos h8, decide_eq_true h8]
  by_cases h9 : (bs p.b).toList = (bs q.b).toList
  case neg => rw [if_neg h9, decide_eq_false h9]; simp
  rw [if_pos h9, decide_eq_true h9]
  simp
theorem rpv_neq (p q : Pk) (w : World) : (binOp .neq 55 (rpv p) (rpv q)).run Tryd.prog w = .ok (.bool (!p.eqB q)) w := by
  unfold rpv Pk.eqB
  go_simp
  by_cases h0 : p.tos = q.tos
  case neg => rw [if_neg h0, decide_eq_false h0]; simp
  rw [if_pos h0, decide_eq_true h0]
  by_cases h1 : p.id = q.id
  case neg => rw [if_neg h1, decide_eq_false h1]; simp
  rw [if_pos h1, decide_eq_true h1]
  by_cases h2 : p.df = q.df
  case neg => rw [if_neg h2, decide_eq_false h2]; simp
  rw [if_pos h2, decide_eq_true h2]
  by_cases h3 : p.mf = q.mf
  case neg => rw [if_neg h3, decide_eq_false h3]; simp
  rw [if_pos h3, decide_eq_true h3]
  by_cases h4 : p.off = q.off
  case neg => rw [if_neg h4, decide_eq_false h4]; simp
  rw [if_pos h4, decide_eq_true h4]
  by_cases h5 : p.ttl = q.ttl
  case neg => rw [if_neg h5, decide_eq_false h5]; simp
  rw [if_pos h5, decide_eq_true h5]
  by_cases h6 : p.pr = q.pr
  case neg => rw [if_neg h6, decide_eq_false h6]; simp
  rw [if_pos h6, decide_eq_true h6]
  by_cases h7 : p.src = q.src
  case neg => rw [if_neg h7, decide_eq_false h7]; simp
  rw [if_pos h7, decide_eq_true h7]
  by_cases h8 : p.dst = q.dst
  case neg => rw [if_neg h8, decide_eq_false h8]; simp
  rw [if_pos h8, decide_eq_true h8]
  by_cases h9 : (bs p.b).toList = (bs q.b).toList
  case neg => rw [if_neg h9, decide_eq_false h9]; simp
  rw [if_pos h9, decide_eq_true h9]
  simp
theorem rpv_guard (op : BinOp) (x y : Operand) (p q : Pk) (w : World) : (eqGuard op 55 x y (rpv p) (rpv q)).run Tryd.prog w = .ok () w := run_eqGuard_agg w op _ x y _ _ (by kernel_rfl)
end Go.Proofs.YtfcfpkhcpijkfaaDoor
