/-
  of, few, own, Split. By an AI agent.
-/
import Derived.Test.YtabjihchcmjdmaaDoorGa10
import Derived.Laws.StructEq
import Derived.OpenShut
import Derived.Deep.Matrix
import Derived.ChangeOld
import Derived.Below
import Derived.Deep.Slices
import Derived.Test.YtabjihchcmjdmaaDoorRows
import Derived.ChangeSame
import Derived.ChangeVars
import Derived.JoinedOf
import Derived.LaidLaws
import Derived.LaidHandle
import Derived.Stop.Joined
import Derived.RangeFuncNested
import Derived.RangeFuncBound
import Derived.RangeFuncCalls
import Derived.RangeFuncLeaves
import Derived.OrdersIn
import Derived.OrdersHeld
import Derived.Shelf.Abstract
import Derived.Shelf.RegionOpen
import Derived.WalkKit
import Derived.OwnWalkIn
import Derived.TacticsInMore
import Derived.LoopNIn
import Derived.LoopIn
/-
  Packets of law 10: of, few. By an AI agent.
-/
namespace Go.Proofs.YtabjihchcmjdmaaDoor
open Go.RowKit

/-- the document's packet, as a value -/
def rpv (p : Pk) : Value := .agg #[.int .u32 p.tos, .int .u32 p.id, .bool p.df, .bool p.mf, .int .i64 p.off, .int .u32 p.ttl, .int .u32 p.pr, .int .u32 p.src, .int .u32 p.dst, .string (bs p.b)]
theorem rp_size : (Tryd.prog.info? 31).map (·.size) = some 10 := by kernel_rfl
theorem pk_size : (Tryd.prog.info? 27).map (·.size) = some 10 := by kernel_rfl
/-- are two packets the same -/
def Pk.eqB (p q : Pk) : Bool := decide (p.tos = q.tos) && (decide (p.id = q.id) && (decide (p.df = q.df) && (decide (p.mf = q.mf) && (decide (p.off = q.off) && (decide (p.ttl = q.ttl) && (decide (p.pr = q.pr) && (decide (p.src = q.src) && (decide (p.dst = q.dst) && decide ((bs p.b).toList = (bs q.b).toList)))))))))
theorem bs_toL (a b : List UInt8) (h : (bs a).toList = (bs b).toList) : a = b := by
  rw [ByteArray.toList_eq, ByteArray.toList_eq, bs_toList, bs_toList] at h
  exact h
theorem Pk.eqB_iff (p q : Pk) : p.eqB q = true ↔ p = q := by
  constructor
  · intro h
    unfold Pk.eqB at h
    simp only [Bool.and_eq_true, decide_eq_true_eq] at h
    obtain ⟨tos, ident, df, mf, off, ttl, pr, src, dst, b⟩ := p
    obtain ⟨tos', ident', df', mf', off', ttl', pr', src', dst', b'⟩ := q
    obtain ⟨h0, h1, h2, h3, h4, h5, h6, h7, h8, h9⟩ := h
    simp only at h0 h1 h2 h3 h4 h5 h6 h7 h8 h9
    rw [h0, h1, h2, h3, h4, h5, h6, h7, h8, bs_toL b b' h9]
  · intro h
    subst h
    simp [Pk.eqB]
theorem Pk.eqB_self (p : Pk) : p.eqB p = true := (p.eqB_iff p).2 rfl
theorem Pk.eqB_no {p q : Pk} (h : p ≠ q) : p.eqB q = false := by
  rw [Bool.eq_false_iff]; exact fun h' => h ((p.eqB_iff q).1 h')
set_option maxRecDepth 100000 in
set_option maxHeartbeats 2000000 in
theorem of10_any (P : Nat → Prop) (p : Pk) (A : Option Addr) (c : Nat) (w : World) (ok : p.ok) (hr : RB w P (.slice A p.b.length c) p.b) :
    Calls Tryd.prog 14 #[pkv p (.slice A p.b.length c)] w fun e w' => e = .returned (rpv p) ∧ Ex (fun _ => False) w w' := by
  obtain ⟨tos, ident, df, mf, off, ttl, pr, src, dst, b⟩ := p
  obtain ⟨o0, o1, o2, o3, o4, o5, o6⟩ := ok
  simp only at o0 o1 o2 o3 o4 o5 o6 hr
  obtain ⟨o00, o01⟩ := o0
  obtain ⟨o10, o11⟩ := o1
  obtain ⟨o20, o21⟩ := o2
  obtain ⟨o30, o31⟩ := o3
  obtain ⟨o40, o41⟩ := o4
  obtain ⟨o50, o51⟩ := o5
  obtain ⟨o60, o61⟩ := o6
  have HR := Lib.hid hr
  clear hr
  show Calls Tryd.prog 14 #[.agg #[.int .u8 tos, .int .u16 ident, .bool df, .bool mf, .int .i64 off, .int .u8 ttl, .int .u8 pr, .int .u32 src, .int .u32 dst, .slice A b.length c]] w fun e w' => e = .returned (.agg #[.int .u32 tos, .int .u32 ident, .bool df, .bool mf, .int .i64 off, .int .u32 ttl, .int .u32 pr, .int .u32 src, .int .u32 dst, .string (bs b)]) ∧ Ex (fun _ => False) w w'
  go_enter Tryd.func14, Tryd.ntmps14
  go_upto_region 1 with fail
  have hx : Ex (fun _ => False) w (w.alloc (.cells #[.int .u8 tos, .int .u16 ident, .bool df, .bool mf, .int .i64 off, .int .u8 ttl, .int .u8 pr, .int .u32 src, .int .u32 dst, .slice A b.length c] 27)) := (Ex.refl _ w).alloc _
  have hb : (w.alloc (.cells #[.int .u8 tos, .int .u16 ident, .bool df, .bool mf, .int .i64 off, .int .u8 ttl, .int .u8 pr, .int .u32 src, .int .u32 dst, .slice A b.length c] 27)).heap[w.heap.size]? = some (.cells #[.int .u8 tos, .int .u16 ident, .bool df, .bool mf, .int .i64 off, .int .u8 ttl, .int .u8 pr, .int .u32 src, .int .u32 dst, .slice A b.length c] 27) := heap_alloc_new w _
  have hs1 : (w.alloc (.cells #[.int .u8 tos, .int .u16 ident, .bool df, .bool mf, .int .i64 off, .int .u8 ttl, .int .u8 pr, .int .u32 src, .int .u32 dst, .slice A b.length c] 27)).heap.size = w.heap.size + 1 := by simp
  obtain ⟨pb0, hpb0⟩ : ∃ pb0, pb0 = w.heap.size := ⟨_, rfl⟩
  have hb_pb0 : w.heap.size ≤ pb0 := by omega
  rw [← hpb0] at hb hs1 
  try simp only [← hpb0]
  generalize w.alloc (.cells #[.int .u8 tos, .int .u16 ident, .bool df, .bool mf, .int .i64 off, .int .u8 ttl, .int .u8 pr, .int .u32 src, .int .u32 dst, .slice A b.length c] 27) = w1 at hx hb  hs1 ⊢
  try simp only [← hs1]
  clear hs1
  clear hpb0
  have HX_w1 := Lib.hid hx
  clear hx
  have B_pb0 := Lib.hid hb
  clear hb
  have hx : Ex (fun _ => False) w1 (w1.alloc (.cells #[.int .u32 0, .int .u32 0, .bool false, .bool false, .int .i64 0, .int .u32 0, .int .u32 0, .int .u32 0, .int .u32 0, .string ⟨#[]⟩] 31)) := (Ex.refl _ w1).alloc _
  have hb : (w1.alloc (.cells #[.int .u32 0, .int .u32 0, .bool false, .bool false, .int .i64 0, .int .u32 0, .int .u32 0, .int .u32 0, .int .u32 0, .string ⟨#[]⟩] 31)).heap[w1.heap.size]? = some (.cells #[.int .u32 0, .int .u32 0, .bool false, .bool false, .int .i64 0, .int .u32 0, .int .u32 0, .int .u32 0, .int .u32 0, .string ⟨#[]⟩] 31) := heap_alloc_new w1 _
  obtain ⟨rb, hrb⟩ : ∃ rb, rb = w1.heap.size := ⟨_, rfl⟩
  have hb_rb : w1.heap.size ≤ rb := by omega
  rw [← hrb] at hb
  try simp only [← hrb]
  generalize w1.alloc (.cells #[.int .u32 0, .int .u32 0, .bool false, .bool false, .int .i64 0, .int .u32 0, .int .u32 0, .int .u32 0, .int .u32 0, .string ⟨#[]⟩] 31) = w2 at hx hb ⊢
  clear hrb
  have HX_w2 := Lib.hid hx
  clear hx
  have B_rb := Lib.hid hb
  clear hb
  replace B_pb0 := Lib.hid ((HX_w2.out.block pb0 (row_lt B_pb0.out) id).trans B_pb0.out)
  have cpb00 := row_cell (k := 0) (v := .int .u8 tos) B_pb0.out rfl
  have cpb01 := row_cell (k := 1) (v := .int .u16 ident) B_pb0.out rfl
  have cpb02 := row_cell (k := 2) (v := .bool df) B_pb0.out rfl
  have cpb03 := row_cell (k := 3) (v := .bool mf) B_pb0.out rfl
  have cpb04 := row_cell (k := 4) (v := .int .i64 off) B_pb0.out rfl
  have cpb05 := row_cell (k := 5) (v := .int .u8 ttl) B_pb0.out rfl
  have cpb06 := row_cell (k := 6) (v := .int .u8 pr) B_pb0.out rfl
  have cpb07 := row_cell (k := 7) (v := .int .u32 src) B_pb0.out rfl
  have cpb08 := row_cell (k := 8) (v := .int .u32 dst) B_pb0.out rfl
  have cpb09 := row_cell (k := 9) (v := .slice A b.length c) B_pb0.out rfl
  have frb0 := row_frozen B_rb.out 0
  have frb1 := row_frozen B_rb.out 1
  have frb2 := row_frozen B_rb.out 2
  have frb3 := row_frozen B_rb.out 3
  have frb4 := row_frozen B_rb.out 4
  have frb5 := row_frozen B_rb.out 5
  have frb6 := row_frozen B_rb.out 6
  have frb7 := row_frozen B_rb.out 7
  have frb8 := row_frozen B_rb.out 8
  have frb9 := row_frozen B_rb.out 9
  have crb0 := row_cell (k := 0) (v := .int .u32 0) B_rb.out rfl
  have crb1 := row_cell (k := 1) (v := .int .u32 0) B_rb.out rfl
  have crb2 := row_cell (k := 2) (v := .bool false) B_rb.out rfl
  have crb3 := row_cell (k := 3) (v := .bool false) B_rb.out rfl
  have crb4 := row_cell (k := 4) (v := .int .i64 0) B_rb.out rfl
  have crb5 := row_cell (k := 5) (v := .int .u32 0) B_rb.out rfl
  have crb6 := row_cell (k := 6) (v := .int .u32 0) B_rb.out rfl
  have crb7 := row_cell (k := 7) (v := .int .u32 0) B_rb.out rfl
  have crb8 := row_cell (k := 8) (v := .int .u32 0) B_rb.out rfl
  have crb9 := row_cell (k := 9) (v := .string ⟨#[]⟩) B_rb.out rfl
  have hcv := ((RB.keep HR.out (HX_w1.out.trans HX_w2.out) (fun _ _ _ => id))).str (Pr := Tryd.prog) 25 9 5 Tryd.underlying25 Tryd.underlying5 Tryd.underlying9
  go_wp2_with fail
  (try simp only [Exit.inBlock, Exit.then])
  clear hcv cpb00 cpb01 cpb02 cpb03 cpb04 cpb05 cpb06 cpb07 cpb08 cpb09
  have r0 : (w2.setCell ⟨rb, 0, none⟩ (.int .u32 tos)).heap[rb]? = some (.cells #[.int .u32 tos, .int .u32 0, .bool false, .bool false, .int .i64 0, .int .u32 0, .int .u32 0, .int .u32 0, .int .u32 0, .string ⟨#[]⟩] 31) := row_set B_rb.out 0 (.int .u32 tos)
  have r1 : ((w2.setCell ⟨rb, 0, none⟩ (.int .u32 tos)).setCell ⟨rb, 1, none⟩ (.int .u32 ident)).heap[rb]? = some (.cells #[.int .u32 tos, .int .u32 ident, .bool false, .bool false, .int .i64 0, .int .u32 0, .int .u32 0, .int .u32 0, .int .u32 0, .string ⟨#[]⟩] 31) := row_set r0 1 (.int .u32 ident)
  clear r0
  have r2 : (((w2.setCell ⟨rb, 0, none⟩ (.int .u32 tos)).setCell ⟨rb, 1, none⟩ (.int .u32 ident)).setCell ⟨rb, 2, none⟩ (.bool df)).heap[rb]? = some (.cells #[.int .u32 tos, .int .u32 ident, .bool df, .bool false, .int .i64 0, .int .u32 0, .int .u32 0, .int .u32 0, .int .u32 0, .string ⟨#[]⟩] 31) := row_set r1 2 (.bool df)
  clear r1
  have r3 : ((((w2.setCell ⟨rb, 0, none⟩ (.int .u32 tos)).setCell ⟨rb, 1, none⟩ (.int .u32 ident)).setCell ⟨rb, 2, none⟩ (.bool df)).setCell ⟨rb, 3, none⟩ (.bool mf)).heap[rb]? = some (.cells #[.int .u32 tos, .int .u32 ident, .bool df, .bool mf, .int .i64 0, .int .u32 0, .int .u32 0, .int .u32 0, .int .u32 0, .string ⟨#[]⟩] 31) := row_set r2 3 (.bool mf)
  clear r2
  have r4 : (((((w2.setCell ⟨rb, 0, none⟩ (.int .u32 tos)).setCell ⟨rb, 1, none⟩ (.int .u32 ident)).setCell ⟨rb, 2, none⟩ (.bool df)).setCell ⟨rb, 3, none⟩ (.bool mf)).setCell ⟨rb, 4, none⟩ (.int .i64 off)).heap[rb]? = some (.cells #[.int .u32 tos, .int .u32 ident, .bool df, .bool mf, .int .i64 off, .int .u32 0, .int .u32 0, .int .u32 0, .int .u32 0, .string ⟨#[]⟩] 31) := row_set r3 4 (.int .i64 off)
  clear r3
  have r5 : ((((((w2.setCell ⟨rb, 0, none⟩ (.int .u32 tos)).setCell ⟨rb, 1, none⟩ (.int .u32 ident)).setCell ⟨rb, 2, none⟩ (.bool df)).setCell ⟨rb, 3, none⟩ (.bool mf)).setCell ⟨rb, 4, none⟩ (.int .i64 off)).setCell ⟨rb, 5, none⟩ (.int .u32 ttl)).heap[rb]? = some (.cells #[.int .u32 tos, .int .u32 ident, .bool df, .bool mf, .int .i64 off, .int .u32 ttl, .int .u32 0, .int .u32 0, .int .u32 0, .string ⟨#[]⟩] 31) := row_set r4 5 (.int .u32 ttl)
  clear r4
  have r6 : (((((((w2.setCell ⟨rb, 0, none⟩ (.int .u32 tos)).setCell ⟨rb, 1, none⟩ (.int .u32 ident)).setCell ⟨rb, 2, none⟩ (.bool df)).setCell ⟨rb, 3, none⟩ (.bool mf)).setCell ⟨rb, 4, none⟩ (.int .i64 off)).setCell ⟨rb, 5, none⟩ (.int .u32 ttl)).setCell ⟨rb, 6, none⟩ (.int .u32 pr)).heap[rb]? = some (.cells #[.int .u32 tos, .int .u32 ident, .bool df, .bool mf, .int .i64 off, .int .u32 ttl, .int .u32 pr, .int .u32 0, .int .u32 0, .string ⟨#[]⟩] 31) := row_set r5 6 (.int .u32 pr)
  clear r5
  have r7 : ((((((((w2.setCell ⟨rb, 0, none⟩ (.int .u32 tos)).setCell ⟨rb, 1, none⟩ (.int .u32 ident)).setCell ⟨rb, 2, none⟩ (.bool df)).setCell ⟨rb, 3, none⟩ (.bool mf)).setCell ⟨rb, 4, none⟩ (.int .i64 off)).setCell ⟨rb, 5, none⟩ (.int .u32 ttl)).setCell ⟨rb, 6, none⟩ (.int .u32 pr)).setCell ⟨rb, 7, none⟩ (.int .u32 src)).heap[rb]? = some (.cells #[.int .u32 tos, .int .u32 ident, .bool df, .bool mf, .int .i64 off, .int .u32 ttl, .int .u32 pr, .int .u32 src, .int .u32 0, .string ⟨#[]⟩] 31) := row_set r6 7 (.int .u32 src)
  clear r6
  have r8 : (((((((((w2.setCell ⟨rb, 0, none⟩ (.int .u32 tos)).setCell ⟨rb, 1, none⟩ (.int .u32 ident)).setCell ⟨rb, 2, none⟩ (.bool df)).setCell ⟨rb, 3, none⟩ (.bool mf)).setCell ⟨rb, 4, none⟩ (.int .i64 off)).setCell ⟨rb, 5, none⟩ (.int .u32 ttl)).setCell ⟨rb, 6, none⟩ (.int .u32 pr)).setCell ⟨rb, 7, none⟩ (.int .u32 src)).setCell ⟨rb, 8, none⟩ (.int .u32 dst)).heap[rb]? = some (.cells #[.int .u32 tos, .int .u32 ident, .bool df, .bool mf, .int .i64 off, .int .u32 ttl, .int .u32 pr, .int .u32 src, .int .u32 dst, .string ⟨#[]⟩] 31) := row_set r7 8 (.int .u32 dst)
  clear r7
  have r9 : ((((((((((w2.setCell ⟨rb, 0, none⟩ (.int .u32 tos)).setCell ⟨rb, 1, none⟩ (.int .u32 ident)).setCell ⟨rb, 2, none⟩ (.bool df)).setCell ⟨rb, 3, none⟩ (.bool mf)).setCell ⟨rb, 4, none⟩ (.int .i64 off)).setCell ⟨rb, 5, none⟩ (.int .u32 ttl)).setCell ⟨rb, 6, none⟩ (.int .u32 pr)).setCell ⟨rb, 7, none⟩ (.int .u32 src)).setCell ⟨rb, 8, none⟩ (.int .u32 dst)).setCell ⟨rb, 9, none⟩ (.string (bs b))).heap[rb]? = some (.cells #[.int .u32 tos, .int .u32 ident, .bool df, .bool mf, .int .i64 off, .int .u32 ttl, .int .u32 pr, .int .u32 src, .int .u32 dst, .string (bs b)] 31) := row_set r8 9 (.string (bs b))
  clear r8
  have hx : Ex (fun j => j = rb) w2 ((((((((((w2.setCell ⟨rb, 0, none⟩ (.int .u32 tos)).setCell ⟨rb, 1, none⟩ (.int .u32 ident)).setCell ⟨rb, 2, none⟩ (.bool df)).setCell ⟨rb, 3, none⟩ (.bool mf)).setCell ⟨rb, 4, none⟩ (.int .i64 off)).setCell ⟨rb, 5, none⟩ (.int .u32 ttl)).setCell ⟨rb, 6, none⟩ (.int .u32 pr)).setCell ⟨rb, 7, none⟩ (.int .u32 src)).setCell ⟨rb, 8, none⟩ (.int .u32 dst)).setCell ⟨rb, 9, none⟩ (.string (bs b))) := (((((((((((Ex.refl (fun j => j = rb) w2).setCell (p := ⟨rb, 0, none⟩) (.inl rfl) (.int .u32 tos)).setCell (p := ⟨rb, 1, none⟩) (.inl rfl) (.int .u32 ident)).setCell (p := ⟨rb, 2, none⟩) (.inl rfl) (.bool df)).setCell (p := ⟨rb, 3, none⟩) (.inl rfl) (.bool mf)).setCell (p := ⟨rb, 4, none⟩) (.inl rfl) (.int .i64 off)).setCell (p := ⟨rb, 5, none⟩) (.inl rfl) (.int .u32 ttl)).setCell (p := ⟨rb, 6, none⟩) (.inl rfl) (.int .u32 pr)).setCell (p := ⟨rb, 7, none⟩) (.inl rfl) (.int .u32 src)).setCell (p := ⟨rb, 8, none⟩) (.inl rfl) (.int .u32 dst)).setCell (p := ⟨rb, 9, none⟩) (.inl rfl) (.string (bs b)))
  clear frb0 frb1 frb2 frb3 frb4 frb5 frb6 frb7 frb8 frb9 crb0 crb1 crb2 crb3 crb4 crb5 crb6 crb7 crb8 crb9
  generalize ((((((((((w2.setCell ⟨rb, 0, none⟩ (.int .u32 tos)).setCell ⟨rb, 1, none⟩ (.int .u32 ident)).setCell ⟨rb, 2, none⟩ (.bool df)).setCell ⟨rb, 3, none⟩ (.bool mf)).setCell ⟨rb, 4, none⟩ (.int .i64 off)).setCell ⟨rb, 5, none⟩ (.int .u32 ttl)).setCell ⟨rb, 6, none⟩ (.int .u32 pr)).setCell ⟨rb, 7, none⟩ (.int .u32 src)).setCell ⟨rb, 8, none⟩ (.int .u32 dst)).setCell ⟨rb, 9, none⟩ (.string (bs b))) = wz at r9 hx ⊢
  have HROW := Lib.hid r9
  clear r9
  have HX_wz := Lib.hid hx
  clear hx
  refine bodyPost_ret (v := .agg #[.int .u32 tos, .int .u32 ident, .bool df, .bool mf, .int .i64 off, .int .u32 ttl, .int .u32 pr, .int .u32 src, .int .u32 dst, .string (bs b)]) ?_ rfl ⟨rfl, ((HX_w1.out.trans HX_w2.out).andThen HX_wz.out (fun i hi e => by have := HX_w1.out.size; have := hb_rb; omega))⟩
  exact results_cell_row (p := 2) rfl _ _ rb 31 #[.int .u32 tos, .int .u32 ident, .bool df, .bool mf, .int .i64 off, .int .u32 ttl, .int .u32 pr, .int .u32 src, .int .u32 dst, .string (bs b)] (0, 0) _ rfl HROW.out Tryd.underlying31 rfl rp_size
/-- at most so many bytes of a packet -/
def Pk.few (p : Pk) (n : Nat) : Pk := { p with b := p.b.take n }
theorem Pk.few_ok {p : Pk} (ok : p.ok) (n : Nat) : (p.few n).ok := ok
theorem Pk.few_len (p : Pk) (n : Nat) : (p.few n).b.length ≤ n := by show (p.b.take n).length ≤ n; rw [List.length_take]; omega
set_option maxRecDepth 100000 in
set_option maxHeartbeats 2000000 in
theorem few10_any (P : Nat → Prop) (p : Pk) (A : Option Addr) (c : Nat) (w : World) (hr : RB w P (.slice A p.b.length c) p.b) :
    Calls Tryd.prog 13 #[pkv p (.slice A p.b.length c)] w fun e w' => ∃ A' c', e = .returned (pkv (p.few 2000) (.slice (some A') (p.few 2000).b.length c')) ∧ OB w' w.heap.size (.slice (some A') (p.few 2000).b.length c') (p.few 2000).b ∧ Ex (fun _ => False) w w' := by
  obtain ⟨tos, ident, df, mf, off, ttl, pr, src, dst, b⟩ := p
  simp only at hr
  obtain ⟨i0, hi, hz0, hz1, hz2⟩ := info_parts Tryd.info5
  obtain ⟨l1, hk, hk1, hk2, hl1⟩ : ∃ l1 : List UInt8, (if 2000 < (b.length : Int) then (2000 : Int) else (b.length : Int)) = (l1.length : Int) ∧ l1.length ≤ b.length ∧ l1.length ≤ 2000 ∧ Hid (l1 = b.take 2000) := by
    refine ⟨b.take 2000, ?_, by simp; omega, by simp; omega, rfl⟩
    rw [List.length_take]; split <;> omega
  have hki : (l1.length : Int) ≤ (b.length : Int) := by omega
  have hbl : b.length ≤ c := by obtain ⟨_, _, _, e, h, _⟩ := hr; injection e with _ _ e3; rw [e3]; exact h
  have hlc : l1.length ≤ c := by omega
  have hr1 := hr.take 2000
  rw [← hl1.out] at hr1
  have HR := Lib.hid hr1
  clear hr hr1
  have hfw : (⟨tos, ident, df, mf, off, ttl, pr, src, dst, b⟩ : Pk).few 2000 = ⟨tos, ident, df, mf, off, ttl, pr, src, dst, l1⟩ := by rw [hl1.out]; rfl
  rw [hfw]
  clear hfw
  show Calls Tryd.prog 13 #[.agg #[.int .u8 tos, .int .u16 ident, .bool df, .bool mf, .int .i64 off, .int .u8 ttl, .int .u8 pr, .int .u32 src, .int .u32 dst, .slice A b.length c]] w fun e w' => ∃ A' c', e = .returned (.agg #[.int .u8 tos, .int .u16 ident, .bool df, .bool mf, .int .i64 off, .int .u8 ttl, .int .u8 pr, .int .u32 src, .int .u32 dst, .slice (some A') l1.length c']) ∧ OB w' w.heap.size (.slice (some A') l1.length c') l1 ∧ Ex (fun _ => False) w w'
  go_enter Tryd.func13, Tryd.ntmps13
  go_upto_region 1 with fail
  have hx : Ex (fun _ => False) w (w.alloc (.cells #[.int .u8 tos, .int .u16 ident, .bool df, .bool mf, .int .i64 off, .int .u8 ttl, .int .u8 pr, .int .u32 src, .int .u32 dst, .slice A b.length c] 27)) := (Ex.refl _ w).alloc _
  have hb : (w.alloc (.cells #[.int .u8 tos, .int .u16 ident, .bool df, .bool mf, .int .i64 off, .int .u8 ttl, .int .u8 pr, .int .u32 src, .int .u32 dst, .slice A b.length c] 27)).heap[w.heap.size]? = some (.cells #[.int .u8 tos, .int .u16 ident, .bool df, .bool mf, .int .i64 off, .int .u8 ttl, .int .u8 pr, .int .u32 src, .int .u32 dst, .slice A b.length c] 27) := heap_alloc_new w _
  have hs1 : (w.alloc (.cells #[.int .u8 tos, .int .u16 ident, .bool df, .bool mf, .int .i64 off, .int .u8 ttl, .int .u8 pr, .int .u32 src, .int .u32 dst, .slice A b.length c] 27)).heap.size = w.heap.size + 1 := by simp
  obtain ⟨pb0, hpb0⟩ : ∃ pb0, pb0 = w.heap.size := ⟨_, rfl⟩
  have hb_pb0 : w.heap.size ≤ pb0 := by omega
  rw [← hpb0] at hb hs1 
  try simp only [← hpb0]
  generalize w.alloc (.cells #[.int .u8 tos, .int .u16 ident, .bool df, .bool mf, .int .i64 off, .int .u8 ttl, .int .u8 pr, .int .u32 src, .int .u32 dst, .slice A b.length c] 27) = w1 at hx hb  hs1 ⊢
  try simp only [← hs1]
  clear hs1
  clear hpb0
  have HX_w1 := Lib.hid hx
  clear hx
  have B_pb0 := Lib.hid hb
  clear hb
  have hx : Ex (fun _ => False) w1 (w1.alloc (.cells #[.int .u8 0, .int .u16 0, .bool false, .bool false, .int .i64 0, .int .u8 0, .int .u8 0, .int .u32 0, .int .u32 0, .slice none 0 0] 27)) := (Ex.refl _ w1).alloc _
  have hb : (w1.alloc (.cells #[.int .u8 0, .int .u16 0, .bool false, .bool false, .int .i64 0, .int .u8 0, .int .u8 0, .int .u32 0, .int .u32 0, .slice none 0 0] 27)).heap[w1.heap.size]? = some (.cells #[.int .u8 0, .int .u16 0, .bool false, .bool false, .int .i64 0, .int .u8 0, .int .u8 0, .int .u32 0, .int .u32 0, .slice none 0 0] 27) := heap_alloc_new w1 _
  obtain ⟨rb, hrb⟩ : ∃ rb, rb = w1.heap.size := ⟨_, rfl⟩
  have hb_rb : w1.heap.size ≤ rb := by omega
  rw [← hrb] at hb
  try simp only [← hrb]
  generalize w1.alloc (.cells #[.int .u8 0, .int .u16 0, .bool false, .bool false, .int .i64 0, .int .u8 0, .int .u8 0, .int .u32 0, .int .u32 0, .slice none 0 0] 27) = w2 at hx hb ⊢
  clear hrb
  have HX_w2 := Lib.hid hx
  clear hx
  have B_rb := Lib.hid hb
  clear hb
  have hrbp := row_lt (show w1.heap[pb0]? = _ from B_pb0.out)
  have ne_rb_pb0 : rb ≠ pb0 := by omega
  clear hrbp
  have cpb09 := row_cell (k := 9) (v := .slice A b.length c) ((HX_w2.out.block pb0 (row_lt B_pb0.out) id).trans B_pb0.out) rfl
  have fpb09 := row_frozen ((HX_w2.out.block pb0 (row_lt B_pb0.out) id).trans B_pb0.out) 9
  have hq0 : (w2.alloc (.cells #[] 5)).heap[pb0]? = _ := (((Ex.refl (fun _ => False) w2).alloc (.cells #[] 5)).block pb0 (row_lt (show w2.heap[pb0]? = _ from ((HX_w2.out.block pb0 (row_lt B_pb0.out) id).trans B_pb0.out))) id).trans ((HX_w2.out.block pb0 (row_lt B_pb0.out) id).trans B_pb0.out)
  have c9a := row_cell (k := 9) (v := .slice A b.length c) hq0 rfl
  clear hq0
  have hrw := (RB.keep HR.out (HX_w1.out.trans HX_w2.out) (fun _ _ _ => id))
  have HRW := Lib.hid hrw
  clear hrw
  go_upto_region 2 with (at_builtin; refine wpList_append_ob i0 25 Tryd.underlying25 hi hz0 hz1 hz2 rfl (.tmp 3) (.tmp 10) rfl w2.heap.size (.slice (some ⟨w2.heap.size, 0, none⟩) 0 0) [] rfl P (.slice A l1.length c) l1 rfl (OB.lit w2 w2.heap.size [] (Nat.le_refl _) (by simp)) (HRW.out.alloc _) (by simp; omega) (by simp) ?_; intro A3 c3 w3 ho3 hg3 hn3 hb3; have hx3 : Ex (fun _ => False) w2 w3 := ((Ex.refl _ w2).alloc _).grown hg3 (fun k hk => .inr (by obtain rfl := Option.some.inj hk; exact Nat.le_refl _)); have hq := hx3.block pb0 (row_lt (show w2.heap[pb0]? = _ from ((HX_w2.out.block pb0 (row_lt B_pb0.out) id).trans B_pb0.out))) id; have hq2 := hq.trans (show w2.heap[pb0]? = _ from ((HX_w2.out.block pb0 (row_lt B_pb0.out) id).trans B_pb0.out)); have c9 := row_cell (k := 9) (v := .slice A b.length c) hq2 rfl; have f9 := row_frozen hq2 9; clear hq)
  clear cpb09 fpb09 c9a c9 f9
  cases A3 with
  | none => exact absurd (hn3.1 rfl).1 (by simp)
  | some A3 =>
    have hx := hx3
    have ho : OB w3 w2.heap.size (.slice (some A3) l1.length c3) l1 := by simpa using ho3
    clear hx3 hq2 hg3 hn3 hb3 ho3 hk
    have HX_w3 := Lib.hid hx
    clear hx
    have HO := Lib.hid ho
    clear ho
    try simp only [List.length_nil, Nat.zero_add]
    have hlb := row_lt B_rb.out
    have hpb2 := row_lt (show w2.heap[pb0]? = _ from ((HX_w2.out.block pb0 (row_lt B_pb0.out) id).trans B_pb0.out))
    replace B_pb0 := Lib.hid (((HX_w2.out.trans HX_w3.out).block pb0 (row_lt B_pb0.out) id).trans B_pb0.out)
    have hb : (w3.setCell ⟨pb0, 9, none⟩ (.slice (some A3) l1.length c3)).heap[pb0]? = some (.cells #[.int .u8 tos, .int .u16 ident, .bool df, .bool mf, .int .i64 off, .int .u8 ttl, .int .u8 pr, .int .u32 src, .int .u32 dst, .slice (some A3) l1.length c3] 27) := (row_set B_pb0.out 9 (.slice (some A3) l1.length c3))
    have hx : Ex (fun j => j = pb0) w3 (w3.setCell ⟨pb0, 9, none⟩ (.slice (some A3) l1.length c3)) := ((Ex.refl (fun j => j = pb0) w3).setCell (p := ⟨pb0, 9, none⟩) (.inl rfl) (.slice (some A3) l1.length c3))
    generalize (w3.setCell ⟨pb0, 9, none⟩ (.slice (some A3) l1.length c3)) = w4 at hx hb ⊢
    clear B_pb0
    have HX_w4 := Lib.hid hx
    clear hx
    have B_pb0 := Lib.hid hb
    clear hb
    have cpb00 := row_cell (k := 0) (v := .int .u8 tos) B_pb0.out rfl
    have cpb01 := row_cell (k := 1) (v := .int .u16 ident) B_pb0.out rfl
    have cpb02 := row_cell (k := 2) (v := .bool df) B_pb0.out rfl
    have cpb03 := row_cell (k := 3) (v := .bool mf) B_pb0.out rfl
    have cpb04 := row_cell (k := 4) (v := .int .i64 off) B_pb0.out rfl
    have cpb05 := row_cell (k := 5) (v := .int .u8 ttl) B_pb0.out rfl
    have cpb06 := row_cell (k := 6) (v := .int .u8 pr) B_pb0.out rfl
    have cpb07 := row_cell (k := 7) (v := .int .u32 src) B_pb0.out rfl
    have cpb08 := row_cell (k := 8) (v := .int .u32 dst) B_pb0.out rfl
    have cpb09 := row_cell (k := 9) (v := .slice (some A3) l1.length c3) B_pb0.out rfl
    have frb0 := row_frozen ((HX_w4.out.block rb (row_lt ((HX_w3.out.block rb (row_lt B_rb.out) id).trans B_rb.out)) ne_rb_pb0).trans ((HX_w3.out.block rb (row_lt B_rb.out) id).trans B_rb.out)) 0
    have frb1 := row_frozen ((HX_w4.out.block rb (row_lt ((HX_w3.out.block rb (row_lt B_rb.out) id).trans B_rb.out)) ne_rb_pb0).trans ((HX_w3.out.block rb (row_lt B_rb.out) id).trans B_rb.out)) 1
    have frb2 := row_frozen ((HX_w4.out.block rb (row_lt ((HX_w3.out.block rb (row_lt B_rb.out) id).trans B_rb.out)) ne_rb_pb0).trans ((HX_w3.out.block rb (row_lt B_rb.out) id).trans B_rb.out)) 2
    have frb3 := row_frozen ((HX_w4.out.block rb (row_lt ((HX_w3.out.block rb (row_lt B_rb.out) id).trans B_rb.out)) ne_rb_pb0).trans ((HX_w3.out.block rb (row_lt B_rb.out) id).trans B_rb.out)) 3
    have frb4 := row_frozen ((HX_w4.out.block rb (row_lt ((HX_w3.out.block rb (row_lt B_rb.out) id).trans B_rb.out)) ne_rb_pb0).trans ((HX_w3.out.block rb (row_lt B_rb.out) id).trans B_rb.out)) 4
    have frb5 := row_frozen ((HX_w4.out.block rb (row_lt ((HX_w3.out.block rb (row_lt B_rb.out) id).trans B_rb.out)) ne_rb_pb0).trans ((HX_w3.out.block rb (row_lt B_rb.out) id).trans B_rb.out)) 5
    have frb6 := row_frozen ((HX_w4.out.block rb (row_lt ((HX_w3.out.block rb (row_lt B_rb.out) id).trans B_rb.out)) ne_rb_pb0).trans ((HX_w3.out.block rb (row_lt B_rb.out) id).trans B_rb.out)) 6
    have frb7 := row_frozen ((HX_w4.out.block rb (row_lt ((HX_w3.out.block rb (row_lt B_rb.out) id).trans B_rb.out)) ne_rb_pb0).trans ((HX_w3.out.block rb (row_lt B_rb.out) id).trans B_rb.out)) 7
    have frb8 := row_frozen ((HX_w4.out.block rb (row_lt ((HX_w3.out.block rb (row_lt B_rb.out) id).trans B_rb.out)) ne_rb_pb0).trans ((HX_w3.out.block rb (row_lt B_rb.out) id).trans B_rb.out)) 8
    have frb9 := row_frozen ((HX_w4.out.block rb (row_lt ((HX_w3.out.block rb (row_lt B_rb.out) id).trans B_rb.out)) ne_rb_pb0).trans ((HX_w3.out.block rb (row_lt B_rb.out) id).trans B_rb.out)) 9
    replace B_rb := Lib.hid ((HX_w4.out.block rb (row_lt ((HX_w3.out.block rb (row_lt B_rb.out) id).trans B_rb.out)) ne_rb_pb0).trans ((HX_w3.out.block rb (row_lt B_rb.out) id).trans B_rb.out))
    have crb0 := row_cell (k := 0) (v := .int .u8 0) B_rb.out rfl
    have crb1 := row_cell (k := 1) (v := .int .u16 0) B_rb.out rfl
    have crb2 := row_cell (k := 2) (v := .bool false) B_rb.out rfl
    have crb3 := row_cell (k := 3) (v := .bool false) B_rb.out rfl
    have crb4 := row_cell (k := 4) (v := .int .i64 0) B_rb.out rfl
    have crb5 := row_cell (k := 5) (v := .int .u8 0) B_rb.out rfl
    have crb6 := row_cell (k := 6) (v := .int .u8 0) B_rb.out rfl
    have crb7 := row_cell (k := 7) (v := .int .u32 0) B_rb.out rfl
    have crb8 := row_cell (k := 8) (v := .int .u32 0) B_rb.out rfl
    have crb9 := row_cell (k := 9) (v := .slice none 0 0) B_rb.out rfl
    go_wp2_with fail
    (try simp only [Exit.inBlock, Exit.then])
    clear cpb00 cpb01 cpb02 cpb03 cpb04 cpb05 cpb06 cpb07 cpb08 cpb09
    have HO4 := Lib.hid (HO.out.keepB HX_w4.out (by omega))
    have r0 : (w4.setCell ⟨rb, 0, none⟩ (.int .u8 tos)).heap[rb]? = some (.cells #[.int .u8 tos, .int .u16 0, .bool false, .bool false, .int .i64 0, .int .u8 0, .int .u8 0, .int .u32 0, .int .u32 0, .slice none 0 0] 27) := row_set B_rb.out 0 (.int .u8 tos)
    have r1 : ((w4.setCell ⟨rb, 0, none⟩ (.int .u8 tos)).setCell ⟨rb, 1, none⟩ (.int .u16 ident)).heap[rb]? = some (.cells #[.int .u8 tos, .int .u16 ident, .bool false, .bool false, .int .i64 0, .int .u8 0, .int .u8 0, .int .u32 0, .int .u32 0, .slice none 0 0] 27) := row_set r0 1 (.int .u16 ident)
    clear r0
    have r2 : (((w4.setCell ⟨rb, 0, none⟩ (.int .u8 tos)).setCell ⟨rb, 1, none⟩ (.int .u16 ident)).setCell ⟨rb, 2, none⟩ (.bool df)).heap[rb]? = some (.cells #[.int .u8 tos, .int .u16 ident, .bool df, .bool false, .int .i64 0, .int .u8 0, .int .u8 0, .int .u32 0, .int .u32 0, .slice none 0 0] 27) := row_set r1 2 (.bool df)
    clear r1
    have r3 : ((((w4.setCell ⟨rb, 0, none⟩ (.int .u8 tos)).setCell ⟨rb, 1, none⟩ (.int .u16 ident)).setCell ⟨rb, 2, none⟩ (.bool df)).setCell ⟨rb, 3, none⟩ (.bool mf)).heap[rb]? = some (.cells #[.int .u8 tos, .int .u16 ident, .bool df, .bool mf, .int .i64 0, .int .u8 0, .int .u8 0, .int .u32 0, .int .u32 0, .slice none 0 0] 27) := row_set r2 3 (.bool mf)
    clear r2
    have r4 : (((((w4.setCell ⟨rb, 0, none⟩ (.int .u8 tos)).setCell ⟨rb, 1, none⟩ (.int .u16 ident)).setCell ⟨rb, 2, none⟩ (.bool df)).setCell ⟨rb, 3, none⟩ (.bool mf)).setCell ⟨rb, 4, none⟩ (.int .i64 off)).heap[rb]? = some (.cells #[.int .u8 tos, .int .u16 ident, .bool df, .bool mf, .int .i64 off, .int .u8 0, .int .u8 0, .int .u32 0, .int .u32 0, .slice none 0 0] 27) := row_set r3 4 (.int .i64 off)
    clear r3
    have r5 : ((((((w4.setCell ⟨rb, 0, none⟩ (.int .u8 tos)).setCell ⟨rb, 1, none⟩ (.int .u16 ident)).setCell ⟨rb, 2, none⟩ (.bool df)).setCell ⟨rb, 3, none⟩ (.bool mf)).setCell ⟨rb, 4, none⟩ (.int .i64 off)).setCell ⟨rb, 5, none⟩ (.int .u8 ttl)).heap[rb]? = some (.cells #[.int .u8 tos, .int .u16 ident, .bool df, .bool mf, .int .i64 off, .int .u8 ttl, .int .u8 0, .int .u32 0, .int .u32 0, .slice none 0 0] 27) := row_set r4 5 (.int .u8 ttl)
    clear r4
    have r6 : (((((((w4.setCell ⟨rb, 0, none⟩ (.int .u8 tos)).setCell ⟨rb, 1, none⟩ (.int .u16 ident)).setCell ⟨rb, 2, none⟩ (.bool df)).setCell ⟨rb, 3, none⟩ (.bool mf)).setCell ⟨rb, 4, none⟩ (.int .i64 off)).setCell ⟨rb, 5, none⟩ (.int .u8 ttl)).setCell ⟨rb, 6, none⟩ (.int .u8 pr)).heap[rb]? = some (.cells #[.int .u8 tos, .int .u16 ident, .bool df, .bool mf, .int .i64 off, .int .u8 ttl, .int .u8 pr, .int .u32 0, .int .u32 0, .slice none 0 0] 27) := row_set r5 6 (.int .u8 pr)
    clear r5
    have r7 : ((((((((w4.setCell ⟨rb, 0, none⟩ (.int .u8 tos)).setCell ⟨rb, 1, none⟩ (.int .u16 ident)).setCell ⟨rb, 2, none⟩ (.bool df)).setCell ⟨rb, 3, none⟩ (.bool mf)).setCell ⟨rb, 4, none⟩ (.int .i64 off)).setCell ⟨rb, 5, none⟩ (.int .u8 ttl)).setCell ⟨rb, 6, none⟩ (.int .u8 pr)).setCell ⟨rb, 7, none⟩ (.int .u32 src)).heap[rb]? = some (.cells #[.int .u8 tos, .int .u16 ident, .bool df, .bool mf, .int .i64 off, .int .u8 ttl, .int .u8 pr, .int .u32 src, .int .u32 0, .slice none 0 0] 27) := row_set r6 7 (.int .u32 src)
    clear r6
    have r8 : (((((((((w4.setCell ⟨rb, 0, none⟩ (.int .u8 tos)).setCell ⟨rb, 1, none⟩ (.int .u16 ident)).setCell ⟨rb, 2, none⟩ (.bool df)).setCell ⟨rb, 3, none⟩ (.bool mf)).setCell ⟨rb, 4, none⟩ (.int .i64 off)).setCell ⟨rb, 5, none⟩ (.int .u8 ttl)).setCell ⟨rb, 6, none⟩ (.int .u8 pr)).setCell ⟨rb, 7, none⟩ (.int .u32 src)).setCell ⟨rb, 8, none⟩ (.int .u32 dst)).heap[rb]? = some (.cells #[.int .u8 tos, .int .u16 ident, .bool df, .bool mf, .int .i64 off, .int .u8 ttl, .int .u8 pr, .int .u32 src, .int .u32 dst, .slice none 0 0] 27) := row_set r7 8 (.int .u32 dst)
    clear r7
    have r9 : ((((((((((w4.setCell ⟨rb, 0, none⟩ (.int .u8 tos)).setCell ⟨rb, 1, none⟩ (.int .u16 ident)).setCell ⟨rb, 2, none⟩ (.bool df)).setCell ⟨rb, 3, none⟩ (.bool mf)).setCell ⟨rb, 4, none⟩ (.int .i64 off)).setCell ⟨rb, 5, none⟩ (.int .u8 ttl)).setCell ⟨rb, 6, none⟩ (.int .u8 pr)).setCell ⟨rb, 7, none⟩ (.int .u32 src)).setCell ⟨rb, 8, none⟩ (.int .u32 dst)).setCell ⟨rb, 9, none⟩ (.slice (some A3) l1.length c3)).heap[rb]? = some (.cells #[.int .u8 tos, .int .u16 ident, .bool df, .bool mf, .int .i64 off, .int .u8 ttl, .int .u8 pr, .int .u32 src, .int .u32 dst, .slice (some A3) l1.length c3] 27) := row_set r8 9 (.slice (some A3) l1.length c3)
    clear r8
    have hx : Ex (fun j => j = rb) w4 ((((((((((w4.setCell ⟨rb, 0, none⟩ (.int .u8 tos)).setCell ⟨rb, 1, none⟩ (.int .u16 ident)).setCell ⟨rb, 2, none⟩ (.bool df)).setCell ⟨rb, 3, none⟩ (.bool mf)).setCell ⟨rb, 4, none⟩ (.int .i64 off)).setCell ⟨rb, 5, none⟩ (.int .u8 ttl)).setCell ⟨rb, 6, none⟩ (.int .u8 pr)).setCell ⟨rb, 7, none⟩ (.int .u32 src)).setCell ⟨rb, 8, none⟩ (.int .u32 dst)).setCell ⟨rb, 9, none⟩ (.slice (some A3) l1.length c3)) := (((((((((((Ex.refl (fun j => j = rb) w4).setCell (p := ⟨rb, 0, none⟩) (.inl rfl) (.int .u8 tos)).setCell (p := ⟨rb, 1, none⟩) (.inl rfl) (.int .u16 ident)).setCell (p := ⟨rb, 2, none⟩) (.inl rfl) (.bool df)).setCell (p := ⟨rb, 3, none⟩) (.inl rfl) (.bool mf)).setCell (p := ⟨rb, 4, none⟩) (.inl rfl) (.int .i64 off)).setCell (p := ⟨rb, 5, none⟩) (.inl rfl) (.int .u8 ttl)).setCell (p := ⟨rb, 6, none⟩) (.inl rfl) (.int .u8 pr)).setCell (p := ⟨rb, 7, none⟩) (.inl rfl) (.int .u32 src)).setCell (p := ⟨rb, 8, none⟩) (.inl rfl) (.int .u32 dst)).setCell (p := ⟨rb, 9, none⟩) (.inl rfl) (.slice (some A3) l1.length c3))
    clear frb0 frb1 frb2 frb3 frb4 frb5 frb6 frb7 frb8 frb9 crb0 crb1 crb2 crb3 crb4 crb5 crb6 crb7 crb8 crb9
    generalize ((((((((((w4.setCell ⟨rb, 0, none⟩ (.int .u8 tos)).setCell ⟨rb, 1, none⟩ (.int .u16 ident)).setCell ⟨rb, 2, none⟩ (.bool df)).setCell ⟨rb, 3, none⟩ (.bool mf)).setCell ⟨rb, 4, none⟩ (.int .i64 off)).setCell ⟨rb, 5, none⟩ (.int .u8 ttl)).setCell ⟨rb, 6, none⟩ (.int .u8 pr)).setCell ⟨rb, 7, none⟩ (.int .u32 src)).setCell ⟨rb, 8, none⟩ (.int .u32 dst)).setCell ⟨rb, 9, none⟩ (.slice (some A3) l1.length c3)) = wz at r9 hx ⊢
    have HROW := Lib.hid r9
    clear r9
    have HX_wz := Lib.hid hx
    clear hx
    have hz02 := (HX_w1.out.trans HX_w2.out).size
    refine bodyPost_ret (v := .agg #[.int .u8 tos, .int .u16 ident, .bool df, .bool mf, .int .i64 off, .int .u8 ttl, .int .u8 pr, .int .u32 src, .int .u32 dst, .slice (some A3) l1.length c3]) ?_ rfl ⟨A3, c3, rfl, (HO4.out.keepB HX_wz.out hlb).mono hz02, ((((HX_w1.out.trans HX_w2.out).trans HX_w3.out).andThen HX_w4.out (fun i hi e => by have := hb_pb0; omega)).andThen HX_wz.out (fun i hi e => by have := HX_w1.out.size; have := hb_rb; omega))⟩
    exact results_cell_row (p := 2) rfl _ _ rb 27 #[.int .u8 tos, .int .u16 ident, .bool df, .bool mf, .int .i64 off, .int .u8 ttl, .int .u8 pr, .int .u32 src, .int .u32 dst, .slice (some A3) l1.length c3] (0, 0) _ rfl HROW.out Tryd.underlying27 rfl pk_size
theorem rpv_eq (p q : Pk) (w : World) : (binOp .eql 31 (rpv p) (rpv q)).run Tryd.prog w = .ok (.bool (p.eqB q)) w := by
  unfold rpv Pk.eqB
  go_simp
  by_cases h0 : p.tos = q.tos
  case neg => rw [if_neg h0, decide_eq_false h0]; simp
  rw [if_pos h0, decide_eq_true h0]
  by_cases h1 : p.id = q.id
  case neg => rw [if_neg h1, decide_eq_false h1]; simp
  rw [if_pos h1, decide_eq_true h1]
  by_cases h2 : p.df = q.df
  case neg => rw [if_neg h2, decide_eq_false h2]; simp
  rw [if_pos h2, decide_eq_true h2]
  by_cases h3 : p.mf = q.mf
  case neg => rw [if_neg h3, decide_eq_false h3]; simp
  rw [if_pos h3, decide_eq_true h3]
  by_cases h4 : p.off = q.off
  case neg => rw [if_neg h4, decide_eq_false h4]; simp
  rw [if_pos h4, decide_eq_true h4]
  by_cases h5 : p.ttl = q.ttl
  case neg => rw [if_neg h5, decide_eq_false h5]; simp
  rw [if_pos h5, decide_eq_true h5]
  by_cases h6 : p.pr = q.pr
  case neg => rw [if_neg h6, decide_eq_false h6]; simp
  rw [if_pos h6, decide_eq_true h6]
  by_cases h7 : p.src = q.src
  case neg => rw [if_neg h7, decide_eq_false h7]; simp
  rw [if_pos h7, decide_eq_true h7]
  by_cases h8 : p.dst = q.dst
  case neg => rw [if_neg h8, decide_eq_false h8]; simp
  rw [if_pos h8, decide_eq_true h8]
  by_cases h9 : (bs p.b).toList = (bs q.b).toList
  case neg => rw [if_neg h9, decide_eq_false h9]; simp
  rw [if_pos h9, decide_eq_true h9]
  simp
theorem rpv_neq (p q : Pk) (w : World) : (binOp .neq 31 (rpv p) (rpv q)).run Tryd.prog w = .ok (.bool (!p.eqB q)) w := by
  unfold rpv Pk.eqB
  go_simp
  by_cases h0 : p.tos = q.tos
  case neg => rw [if_neg h0, decide_eq_false h0]; simp
  rw [if_pos h0, decide_eq_true h0]
  by_cases h1 : p.id = q.id
  case neg => rw [if_neg h1, decide_eq_false h1]; simp
  rw [if_pos h1, decide_eq_true h1]
  by_cases h2 : p.df = q.df
  case neg => rw [if_neg h2, decide_eq_false h2]; simp
  rw [if_pos h2, decide_eq_true h2]
  by_cases h3 : p.mf = q.mf
  case neg => rw [if_neg h3, decide_eq_false h3]; simp
  rw [if_pos h3, decide_eq_true h3]
  by_cases h4 : p.off = q.off
  case neg => rw [if_neg h4, decide_eq_false h4]; simp
  rw [if_pos h4, decide_eq_true h4]
  by_cases h5 : p.ttl = q.ttl
  case neg => rw [if_neg h5, decide_eq_false h5]; simp
  rw [if_pos h5, decide_eq_true h5]
  by_cases h6 : p.pr = q.pr
  case neg => rw [if_neg h6, decide_eq_false h6]; simp
  rw [if_pos h6, decide_eq_true h6]
  by_cases h7 : p.src = q.src
  case neg => rw [if_neg h7, decide_eq_false h7]; simp
  rw [if_pos h7, decide_eq_true h7]
  by_cases h8 : p.dst = q.dst
  case neg => rw [if_neg h8, decide_eq_false h8]; simp
  rw [if_pos h8, decide_eq_true h8]
  by_cases h9 : (bs p.b).toList = (bs q.b).toList
  case neg => rw [if_neg h9, decide_eq_false h9]; simp
  rw [if_pos h9, decide_eq_true h9]
  simp
theorem rpv_guard (op : BinOp) (x y : Operand) (p q : Pk) (w : World) : (eqGuard op 31 x y (rpv p) (rpv q)).run Tryd.prog w = .ok () w := run_eqGuard_agg w op _ x y _ _ (by kernel_rfl)
end Go.Proofs.YtabjihchcmjdmaaDoor
/-
  The contract of frag.own; Right in two ways. By an AI agent.
-/
namespace Go.Proofs.YtabjihchcmjdmaaDoor
open Go.RowKit

theorem right_no (p : Pk) (A : Option Addr) (c : Nat) (w : World) (hn : p.b.length ≤ 140737488355328) (h : p.right ≠ 0) :
    Calls Tryd.prog 21 #[pkv p (.slice A p.b.length c)] w fun e w' => ∃ t y, e = .returned (.iface t y) ∧ EC w' (fun j => w.heap.size ≤ j) [lay5] (.iface t y) p.right ∧ Ex (fun _ => False) w w' := by
  refine (right_any p A c w hn).mono ?_
  rintro e w' ⟨hx, ⟨h', _⟩ | ⟨_, v, rfl, he⟩⟩
  · exact absurd h' h
  · obtain ⟨t, y, rfl⟩ := he.shape
    exact ⟨t, y, rfl, he, hx⟩
theorem right_yes (p : Pk) (A : Option Addr) (c : Nat) (w : World) (hn : p.b.length ≤ 140737488355328) (h : p.right = 0) :
    Calls Tryd.prog 21 #[pkv p (.slice A p.b.length c)] w fun e w' => e = .returned .nilIface ∧ Ex (fun _ => False) w w' := by
  refine (right_any p A c w hn).mono ?_
  rintro e w' ⟨hx, ⟨_, rfl⟩ | ⟨h', _⟩⟩
  · exact ⟨rfl, hx⟩
  · exact absurd h h'
set_option maxRecDepth 100000 in
set_option maxHeartbeats 4000000 in
/-- frag.own: the packet, with bytes of its own -/
theorem own_any (P : Nat → Prop) (p : Pk) (A : Option Addr) (c : Nat) (w : World) (hr : RB w P (.slice A p.b.length c) p.b) (hA : A = none → c = 0) (hl : p.b.length ≤ 1000000000) :
    Calls Tryd.prog 25 #[pkv p (.slice A p.b.length c)] w fun e w' => ∃ A' c', e = .returned (pkv p (.slice A' p.b.length c')) ∧ OB w' w.heap.size (.slice A' p.b.length c') p.b ∧ Ex (fun _ => False) w w' := by
  obtain ⟨tos, ident, df, mf, off, ttl, pr, src, dst, b⟩ := p
  simp only at hr hl
  have HR := Lib.hid hr
  have HA := Lib.hid hA
  have HL := Lib.hid hl
  clear hr hA hl
  show Calls Tryd.prog 25 #[.agg #[.int .u8 tos, .int .u16 ident, .bool df, .bool mf, .int .i64 off, .int .u8 ttl, .int .u8 pr, .int .u32 src, .int .u32 dst, .slice A b.length c]] w fun e w' => ∃ A' c', e = .returned (.agg #[.int .u8 tos, .int .u16 ident, .bool df, .bool mf, .int .i64 off, .int .u8 ttl, .int .u8 pr, .int .u32 src, .int .u32 dst, .slice A' b.length c']) ∧ OB w' w.heap.size (.slice A' b.length c') b ∧ Ex (fun _ => False) w w'
  go_enter Tryd.func25, Tryd.ntmps25
  go_upto_region 1 with fail
  have hx : Ex (fun _ => False) w (w.alloc (.cells #[.int .u8 tos, .int .u16 ident, .bool df, .bool mf, .int .i64 off, .int .u8 ttl, .int .u8 pr, .int .u32 src, .int .u32 dst, .slice A b.length c] 27)) := (Ex.refl _ w).alloc _
  have hb : (w.alloc (.cells #[.int .u8 tos, .int .u16 ident, .bool df, .bool mf, .int .i64 off, .int .u8 ttl, .int .u8 pr, .int .u32 src, .int .u32 dst, .slice A b.length c] 27)).heap[w.heap.size]? = some (.cells #[.int .u8 tos, .int .u16 ident, .bool df, .bool mf, .int .i64 off, .int .u8 ttl, .int .u8 pr, .int .u32 src, .int .u32 dst, .slice A b.length c] 27) := heap_alloc_new w _
  have hs1 : (w.alloc (.cells #[.int .u8 tos, .int .u16 ident, .bool df, .bool mf, .int .i64 off, .int .u8 ttl, .int .u8 pr, .int .u32 src, .int .u32 dst, .slice A b.length c] 27)).heap.size = w.heap.size + 1 := by simp
  obtain ⟨pb0, hpb0⟩ : ∃ pb0, pb0 = w.heap.size := ⟨_, rfl⟩
  have hb_pb0 : w.heap.size ≤ pb0 := by omega
  rw [← hpb0] at hb hs1 
  try simp only [← hpb0]
  generalize w.alloc (.cells #[.int .u8 tos, .int .u16 ident, .bool df, .bool mf, .int .i64 off, .int .u8 ttl, .int .u8 pr, .int .u32 src, .int .u32 dst, .slice A b.length c] 27) = w1 at hx hb  hs1 ⊢
  try simp only [← hs1]
  clear hs1
  clear hpb0
  have HX_w1 := Lib.hid hx
  clear hx
  have B_pb0 := Lib.hid hb
  clear hb
  have hx : Ex (fun _ => False) w1 (w1.alloc (.cells #[.int .u8 0, .int .u16 0, .bool false, .bool false, .int .i64 0, .int .u8 0, .int .u8 0, .int .u32 0, .int .u32 0, .slice none 0 0] 27)) := (Ex.refl _ w1).alloc _
  have hb : (w1.alloc (.cells #[.int .u8 0, .int .u16 0, .bool false, .bool false, .int .i64 0, .int .u8 0, .int .u8 0, .int .u32 0, .int .u32 0, .slice none 0 0] 27)).heap[w1.heap.size]? = some (.cells #[.int .u8 0, .int .u16 0, .bool false, .bool false, .int .i64 0, .int .u8 0, .int .u8 0, .int .u32 0, .int .u32 0, .slice none 0 0] 27) := heap_alloc_new w1 _
  obtain ⟨rb, hrb⟩ : ∃ rb, rb = w1.heap.size := ⟨_, rfl⟩
  have hb_rb : w1.heap.size ≤ rb := by omega
  rw [← hrb] at hb
  try simp only [← hrb]
  generalize w1.alloc (.cells #[.int .u8 0, .int .u16 0, .bool false, .bool false, .int .i64 0, .int .u8 0, .int .u8 0, .int .u32 0, .int .u32 0, .slice none 0 0] 27) = w2 at hx hb ⊢
  clear hrb
  have HX_w2 := Lib.hid hx
  clear hx
  have B_rb := Lib.hid hb
  clear hb
  have hrbp := row_lt (show w1.heap[pb0]? = _ from B_pb0.out)
  have ne_rb_pb0 : rb ≠ pb0 := by omega
  clear hrbp
  have cpb09 := row_cell (k := 9) (v := .slice A b.length c) ((HX_w2.out.block pb0 (row_lt B_pb0.out) id).trans B_pb0.out) rfl
  go_wp2_with fail
  refine (clone_any P A b.length c b w2 (RB.keep HR.out (HX_w1.out.trans HX_w2.out) (fun _ _ _ => id)) HA.out HL.out).mono ?_
  rintro e w3 ⟨A3, c3, rfl, ho, hx⟩
  clear cpb09
  have HX_w3 := Lib.hid hx
  clear hx
  have HO := Lib.hid ho
  clear ho
  have fpb09 := row_frozen (((HX_w2.out.trans HX_w3.out).block pb0 (row_lt B_pb0.out) id).trans B_pb0.out) 9
  have cpb09 := row_cell (k := 9) (v := .slice A b.length c) (((HX_w2.out.trans HX_w3.out).block pb0 (row_lt B_pb0.out) id).trans B_pb0.out) rfl
  go_upto_region 2 with fail
  have hlb := row_lt B_rb.out
  have hpb2 := row_lt (show w2.heap[pb0]? = _ from ((HX_w2.out.block pb0 (row_lt B_pb0.out) id).trans B_pb0.out))
  replace B_pb0 := Lib.hid (((HX_w2.out.trans HX_w3.out).block pb0 (row_lt B_pb0.out) id).trans B_pb0.out)
  have hb : (w3.setCell ⟨pb0, 9, none⟩ (.slice A3 b.length c3)).heap[pb0]? = some (.cells #[.int .u8 tos, .int .u16 ident, .bool df, .bool mf, .int .i64 off, .int .u8 ttl, .int .u8 pr, .int .u32 src, .int .u32 dst, .slice A3 b.length c3] 27) := (row_set B_pb0.out 9 (.slice A3 b.length c3))
  have hx : Ex (fun j => j = pb0) w3 (w3.setCell ⟨pb0, 9, none⟩ (.slice A3 b.length c3)) := ((Ex.refl (fun j => j = pb0) w3).setCell (p := ⟨pb0, 9, none⟩) (.inl rfl) (.slice A3 b.length c3))
  clear fpb09 cpb09
  generalize (w3.setCell ⟨pb0, 9, none⟩ (.slice A3 b.length c3)) = w4 at hx hb ⊢
  clear B_pb0
  have HX_w4 := Lib.hid hx
  clear hx
  have B_pb0 := Lib.hid hb
  clear hb
  have cpb00 := row_cell (k := 0) (v := .int .u8 tos) B_pb0.out rfl
  have cpb01 := row_cell (k := 1) (v := .int .u16 ident) B_pb0.out rfl
  have cpb02 := row_cell (k := 2) (v := .bool df) B_pb0.out rfl
  have cpb03 := row_cell (k := 3) (v := .bool mf) B_pb0.out rfl
  have cpb04 := row_cell (k := 4) (v := .int .i64 off) B_pb0.out rfl
  have cpb05 := row_cell (k := 5) (v := .int .u8 ttl) B_pb0.out rfl
  have cpb06 := row_cell (k := 6) (v := .int .u8 pr) B_pb0.out rfl
  have cpb07 := row_cell (k := 7) (v := .int .u32 src) B_pb0.out rfl
  have cpb08 := row_cell (k := 8) (v := .int .u32 dst) B_pb0.out rfl
  have cpb09 := row_cell (k := 9) (v := .slice A3 b.length c3) B_pb0.out rfl
  have frb0 := row_frozen ((HX_w4.out.block rb (row_lt ((HX_w3.out.block rb (row_lt B_rb.out) id).trans B_rb.out)) ne_rb_pb0).trans ((HX_w3.out.block rb (row_lt B_rb.out) id).trans B_rb.out)) 0
  have frb1 := row_frozen ((HX_w4.out.block rb (row_lt ((HX_w3.out.block rb (row_lt B_rb.out) id).trans B_rb.out)) ne_rb_pb0).trans ((HX_w3.out.block rb (row_lt B_rb.out) id).trans B_rb.out)) 1
  have frb2 := row_frozen ((HX_w4.out.block rb (row_lt ((HX_w3.out.block rb (row_lt B_rb.out) id).trans B_rb.out)) ne_rb_pb0).trans ((HX_w3.out.block rb (row_lt B_rb.out) id).trans B_rb.out)) 2
  have frb3 := row_frozen ((HX_w4.out.block rb (row_lt ((HX_w3.out.block rb (row_lt B_rb.out) id).trans B_rb.out)) ne_rb_pb0).trans ((HX_w3.out.block rb (row_lt B_rb.out) id).trans B_rb.out)) 3
  have frb4 := row_frozen ((HX_w4.out.block rb (row_lt ((HX_w3.out.block rb (row_lt B_rb.out) id).trans B_rb.out)) ne_rb_pb0).trans ((HX_w3.out.block rb (row_lt B_rb.out) id).trans B_rb.out)) 4
  have frb5 := row_frozen ((HX_w4.out.block rb (row_lt ((HX_w3.out.block rb (row_lt B_rb.out) id).trans B_rb.out)) ne_rb_pb0).trans ((HX_w3.out.block rb (row_lt B_rb.out) id).trans B_rb.out)) 5
  have frb6 := row_frozen ((HX_w4.out.block rb (row_lt ((HX_w3.out.block rb (row_lt B_rb.out) id).trans B_rb.out)) ne_rb_pb0).trans ((HX_w3.out.block rb (row_lt B_rb.out) id).trans B_rb.out)) 6
  have frb7 := row_frozen ((HX_w4.out.block rb (row_lt ((HX_w3.out.block rb (row_lt B_rb.out) id).trans B_rb.out)) ne_rb_pb0).trans ((HX_w3.out.block rb (row_lt B_rb.out) id).trans B_rb.out)) 7
  have frb8 := row_frozen ((HX_w4.out.block rb (row_lt ((HX_w3.out.block rb (row_lt B_rb.out) id).trans B_rb.out)) ne_rb_pb0).trans ((HX_w3.out.block rb (row_lt B_rb.out) id).trans B_rb.out)) 8
  have frb9 := row_frozen ((HX_w4.out.block rb (row_lt ((HX_w3.out.block rb (row_lt B_rb.out) id).trans B_rb.out)) ne_rb_pb0).trans ((HX_w3.out.block rb (row_lt B_rb.out) id).trans B_rb.out)) 9
  replace B_rb := Lib.hid ((HX_w4.out.block rb (row_lt ((HX_w3.out.block rb (row_lt B_rb.out) id).trans B_rb.out)) ne_rb_pb0).trans ((HX_w3.out.block rb (row_lt B_rb.out) id).trans B_rb.out))
  have crb0 := row_cell (k := 0) (v := .int .u8 0) B_rb.out rfl
  have crb1 := row_cell (k := 1) (v := .int .u16 0) B_rb.out rfl
  have crb2 := row_cell (k := 2) (v := .bool false) B_rb.out rfl
  have crb3 := row_cell (k := 3) (v := .bool false) B_rb.out rfl
  have crb4 := row_cell (k := 4) (v := .int .i64 0) B_rb.out rfl
  have crb5 := row_cell (k := 5) (v := .int .u8 0) B_rb.out rfl
  have crb6 := row_cell (k := 6) (v := .int .u8 0) B_rb.out rfl
  have crb7 := row_cell (k := 7) (v := .int .u32 0) B_rb.out rfl
  have crb8 := row_cell (k := 8) (v := .int .u32 0) B_rb.out rfl
  have crb9 := row_cell (k := 9) (v := .slice none 0 0) B_rb.out rfl
  go_wp2_with fail
  (try simp only [Exit.inBlock, Exit.then])
  clear cpb00 cpb01 cpb02 cpb03 cpb04 cpb05 cpb06 cpb07 cpb08 cpb09
  have HO4 := Lib.hid (HO.out.keepB HX_w4.out (by omega))
  have r0 : (w4.setCell ⟨rb, 0, none⟩ (.int .u8 tos)).heap[rb]? = some (.cells #[.int .u8 tos, .int .u16 0, .bool false, .bool false, .int .i64 0, .int .u8 0, .int .u8 0, .int .u32 0, .int .u32 0, .slice none 0 0] 27) := row_set B_rb.out 0 (.int .u8 tos)
  have r1 : ((w4.setCell ⟨rb, 0, none⟩ (.int .u8 tos)).setCell ⟨rb, 1, none⟩ (.int .u16 ident)).heap[rb]? = some (.cells #[.int .u8 tos, .int .u16 ident, .bool false, .bool false, .int .i64 0, .int .u8 0, .int .u8 0, .int .u32 0, .int .u32 0, .slice none 0 0] 27) := row_set r0 1 (.int .u16 ident)
  clear r0
  have r2 : (((w4.setCell ⟨rb, 0, none⟩ (.int .u8 tos)).setCell ⟨rb, 1, none⟩ (.int .u16 ident)).setCell ⟨rb, 2, none⟩ (.bool df)).heap[rb]? = some (.cells #[.int .u8 tos, .int .u16 ident, .bool df, .bool false, .int .i64 0, .int .u8 0, .int .u8 0, .int .u32 0, .int .u32 0, .slice none 0 0] 27) := row_set r1 2 (.bool df)
  clear r1
  have r3 : ((((w4.setCell ⟨rb, 0, none⟩ (.int .u8 tos)).setCell ⟨rb, 1, none⟩ (.int .u16 ident)).setCell ⟨rb, 2, none⟩ (.bool df)).setCell ⟨rb, 3, none⟩ (.bool mf)).heap[rb]? = some (.cells #[.int .u8 tos, .int .u16 ident, .bool df, .bool mf, .int .i64 0, .int .u8 0, .int .u8 0, .int .u32 0, .int .u32 0, .slice none 0 0] 27) := row_set r2 3 (.bool mf)
  clear r2
  have r4 : (((((w4.setCell ⟨rb, 0, none⟩ (.int .u8 tos)).setCell ⟨rb, 1, none⟩ (.int .u16 ident)).setCell ⟨rb, 2, none⟩ (.bool df)).setCell ⟨rb, 3, none⟩ (.bool mf)).setCell ⟨rb, 4, none⟩ (.int .i64 off)).heap[rb]? = some (.cells #[.int .u8 tos, .int .u16 ident, .bool df, .bool mf, .int .i64 off, .int .u8 0, .int .u8 0, .int .u32 0, .int .u32 0, .slice none 0 0] 27) := row_set r3 4 (.int .i64 off)
  clear r3
  have r5 : ((((((w4.setCell ⟨rb, 0, none⟩ (.int .u8 tos)).setCell ⟨rb, 1, none⟩ (.int .u16 ident)).setCell ⟨rb, 2, none⟩ (.bool df)).setCell ⟨rb, 3, none⟩ (.bool mf)).setCell ⟨rb, 4, none⟩ (.int .i64 off)).setCell ⟨rb, 5, none⟩ (.int .u8 ttl)).heap[rb]? = some (.cells #[.int .u8 tos, .int .u16 ident, .bool df, .bool mf, .int .i64 off, .int .u8 ttl, .int .u8 0, .int .u32 0, .int .u32 0, .slice none 0 0] 27) := row_set r4 5 (.int .u8 ttl)
  clear r4
  have r6 : (((((((w4.setCell ⟨rb, 0, none⟩ (.int .u8 tos)).setCell ⟨rb, 1, none⟩ (.int .u16 ident)).setCell ⟨rb, 2, none⟩ (.bool df)).setCell ⟨rb, 3, none⟩ (.bool mf)).setCell ⟨rb, 4, none⟩ (.int .i64 off)).setCell ⟨rb, 5, none⟩ (.int .u8 ttl)).setCell ⟨rb, 6, none⟩ (.int .u8 pr)).heap[rb]? = some (.cells #[.int .u8 tos, .int .u16 ident, .bool df, .bool mf, .int .i64 off, .int .u8 ttl, .int .u8 pr, .int .u32 0, .int .u32 0, .slice none 0 0] 27) := row_set r5 6 (.int .u8 pr)
  clear r5
  have r7 : ((((((((w4.setCell ⟨rb, 0, none⟩ (.int .u8 tos)).setCell ⟨rb, 1, none⟩ (.int .u16 ident)).setCell ⟨rb, 2, none⟩ (.bool df)).setCell ⟨rb, 3, none⟩ (.bool mf)).setCell ⟨rb, 4, none⟩ (.int .i64 off)).setCell ⟨rb, 5, none⟩ (.int .u8 ttl)).setCell ⟨rb, 6, none⟩ (.int .u8 pr)).setCell ⟨rb, 7, none⟩ (.int .u32 src)).heap[rb]? = some (.cells #[.int .u8 tos, .int .u16 ident, .bool df, .bool mf, .int .i64 off, .int .u8 ttl, .int .u8 pr, .int .u32 src, .int .u32 0, .slice none 0 0] 27) := row_set r6 7 (.int .u32 src)
  clear r6
  have r8 : (((((((((w4.setCell ⟨rb, 0, none⟩ (.int .u8 tos)).setCell ⟨rb, 1, none⟩ (.int .u16 ident)).setCell ⟨rb, 2, none⟩ (.bool df)).setCell ⟨rb, 3, none⟩ (.bool mf)).setCell ⟨rb, 4, none⟩ (.int .i64 off)).setCell ⟨rb, 5, none⟩ (.int .u8 ttl)).setCell ⟨rb, 6, none⟩ (.int .u8 pr)).setCell ⟨rb, 7, none⟩ (.int .u32 src)).setCell ⟨rb, 8, none⟩ (.int .u32 dst)).heap[rb]? = some (.cells #[.int .u8 tos, .int .u16 ident, .bool df, .bool mf, .int .i64 off, .int .u8 ttl, .int .u8 pr, .int .u32 src, .int .u32 dst, .slice none 0 0] 27) := row_set r7 8 (.int .u32 dst)
  clear r7
  have r9 : ((((((((((w4.setCell ⟨rb, 0, none⟩ (.int .u8 tos)).setCell ⟨rb, 1, none⟩ (.int .u16 ident)).setCell ⟨rb, 2, none⟩ (.bool df)).setCell ⟨rb, 3, none⟩ (.bool mf)).setCell ⟨rb, 4, none⟩ (.int .i64 off)).setCell ⟨rb, 5, none⟩ (.int .u8 ttl)).setCell ⟨rb, 6, none⟩ (.int .u8 pr)).setCell ⟨rb, 7, none⟩ (.int .u32 src)).setCell ⟨rb, 8, none⟩ (.int .u32 dst)).setCell ⟨rb, 9, none⟩ (.slice A3 b.length c3)).heap[rb]? = some (.cells #[.int .u8 tos, .int .u16 ident, .bool df, .bool mf, .int .i64 off, .int .u8 ttl, .int .u8 pr, .int .u32 src, .int .u32 dst, .slice A3 b.length c3] 27) := row_set r8 9 (.slice A3 b.length c3)
  clear r8
  have hx : Ex (fun j => j = rb) w4 ((((((((((w4.setCell ⟨rb, 0, none⟩ (.int .u8 tos)).setCell ⟨rb, 1, none⟩ (.int .u16 ident)).setCell ⟨rb, 2, none⟩ (.bool df)).setCell ⟨rb, 3, none⟩ (.bool mf)).setCell ⟨rb, 4, none⟩ (.int .i64 off)).setCell ⟨rb, 5, none⟩ (.int .u8 ttl)).setCell ⟨rb, 6, none⟩ (.int .u8 pr)).setCell ⟨rb, 7, none⟩ (.int .u32 src)).setCell ⟨rb, 8, none⟩ (.int .u32 dst)).setCell ⟨rb, 9, none⟩ (.slice A3 b.length c3)) := (((((((((((Ex.refl (fun j => j = rb) w4).setCell (p := ⟨rb, 0, none⟩) (.inl rfl) (.int .u8 tos)).setCell (p := ⟨rb, 1, none⟩) (.inl rfl) (.int .u16 ident)).setCell (p := ⟨rb, 2, none⟩) (.inl rfl) (.bool df)).setCell (p := ⟨rb, 3, none⟩) (.inl rfl) (.bool mf)).setCell (p := ⟨rb, 4, none⟩) (.inl rfl) (.int .i64 off)).setCell (p := ⟨rb, 5, none⟩) (.inl rfl) (.int .u8 ttl)).setCell (p := ⟨rb, 6, none⟩) (.inl rfl) (.int .u8 pr)).setCell (p := ⟨rb, 7, none⟩) (.inl rfl) (.int .u32 src)).setCell (p := ⟨rb, 8, none⟩) (.inl rfl) (.int .u32 dst)).setCell (p := ⟨rb, 9, none⟩) (.inl rfl) (.slice A3 b.length c3))
  clear frb0 frb1 frb2 frb3 frb4 frb5 frb6 frb7 frb8 frb9 crb0 crb1 crb2 crb3 crb4 crb5 crb6 crb7 crb8 crb9
  generalize ((((((((((w4.setCell ⟨rb, 0, none⟩ (.int .u8 tos)).setCell ⟨rb, 1, none⟩ (.int .u16 ident)).setCell ⟨rb, 2, none⟩ (.bool df)).setCell ⟨rb, 3, none⟩ (.bool mf)).setCell ⟨rb, 4, none⟩ (.int .i64 off)).setCell ⟨rb, 5, none⟩ (.int .u8 ttl)).setCell ⟨rb, 6, none⟩ (.int .u8 pr)).setCell ⟨rb, 7, none⟩ (.int .u32 src)).setCell ⟨rb, 8, none⟩ (.int .u32 dst)).setCell ⟨rb, 9, none⟩ (.slice A3 b.length c3)) = wz at r9 hx ⊢
  replace B_rb := Lib.hid r9
  clear r9
  have HX_wz := Lib.hid hx
  clear hx
  have hz02 := (HX_w1.out.trans HX_w2.out).size
  refine bodyPost_ret (v := .agg #[.int .u8 tos, .int .u16 ident, .bool df, .bool mf, .int .i64 off, .int .u8 ttl, .int .u8 pr, .int .u32 src, .int .u32 dst, .slice A3 b.length c3]) ?_ rfl ⟨A3, c3, rfl, (HO4.out.keepB HX_wz.out hlb).mono hz02, ((((HX_w1.out.trans HX_w2.out).trans HX_w3.out).andThen HX_w4.out (fun i hi e => by have := hb_pb0; omega)).andThen HX_wz.out (fun i hi e => by have := HX_w1.out.size; have := hb_rb; omega))⟩
  exact results_cell_row (p := 2) rfl _ _ rb 27 #[.int .u8 tos, .int .u16 ident, .bool df, .bool mf, .int .i64 off, .int .u8 ttl, .int .u8 pr, .int .u32 src, .int .u32 dst, .slice A3 b.length c3] (0, 0) _ rfl B_rb.out Tryd.underlying27 rfl pk_size
end Go.Proofs.YtabjihchcmjdmaaDoor
/-
  From what a call is handed to what the walks speak of: slices of bytes, and slices of these. By an AI agent.
-/
namespace Go.Proofs.YtabjihchcmjdmaaDoor
open Go.RowKit Go.ChangeShapes

theorem byte_of_wf {n : Int} (h : (Lit.int .u8 n).wf = true) : ((by8 n).toNat : Int) = n := by
  have hb : 0 ≤ n ∧ n ≤ 255 := by simpa [Lit.wf, IntKind.min, IntKind.max, IntKind.signed, IntKind.bits] using h
  rw [by8_toNat]
  omega

theorem rb_of_ints {w : World} {a : Addr} {len cap : Nat} {zs : List Int} (hl : len ≤ cap) (hm : cap ≤ maxLen) (hz : zs.length = cap) (hc : ∀ i, i < zs.length → w.cell? (a.add i) = some (.int .u8 (zs.getD i 0)))
    (hw : ∀ n ∈ zs, (Lit.int .u8 n).wf = true) : ∃ l, RB w (fun _ => True) (.slice (some a) len cap) l := by
  have hlen : ((zs.take len).map by8).length = len := by simp; omega
  refine ⟨(zs.take len).map by8, by rw [hlen]; simp only [maxLen] at hm; omega, some a, cap, by rw [hlen], by omega, fun i hi => ?_⟩
  obtain ⟨b, off, rfl, hcell⟩ := Go.ints_at hc (by omega)
  refine ⟨b, off, rfl, trivial, ?_⟩
  rw [hcell i (by omega)]
  have hi' : i < zs.length := by omega
  have := byte_of_wf (hw zs[i] (List.getElem_mem _))
  simp [List.getD_eq_getElem?_getD, hi', this]

def by16 (x : Int) : UInt16 := UInt16.ofNat (x % 65536).toNat
theorem word_of_wf {n : Int} (h : (Lit.int .u16 n).wf = true) : ((by16 n).toNat : Int) = n := by
  have hb : 0 ≤ n ∧ n ≤ 65535 := by simpa [Lit.wf, IntKind.min, IntKind.max, IntKind.signed, IntKind.bits] using h
  unfold by16
  rw [UInt16.toNat_ofNat']
  omega
theorem rw_of_ints {w : World} {a : Addr} {len cap : Nat} {zs : List Int} (hl : len ≤ cap) (hm : cap ≤ maxLen) (hz : zs.length = cap) (hc : ∀ i, i < zs.length → w.cell? (a.add i) = some (.int .u16 (zs.getD i 0)))
    (hw : ∀ n ∈ zs, (Lit.int .u16 n).wf = true) : ∃ l, RW w (fun _ => True) (.slice (some a) len cap) l := by
  have hlen : ((zs.take len).map by16).length = len := by simp; omega
  refine ⟨(zs.take len).map by16, by rw [hlen]; simp only [maxLen] at hm; omega, some a, cap, by rw [hlen], by omega, fun i hi => ?_⟩
  obtain ⟨b, off, rfl, hcell⟩ := Go.ints_at hc (by omega)
  refine ⟨b, off, rfl, trivial, ?_⟩
  rw [hcell i (by omega)]
  have hi' : i < zs.length := by omega
  have := word_of_wf (hw zs[i] (List.getElem_mem _))
  simp [List.getD_eq_getElem?_getD, hi', this]
theorem rw_none (w : World) : RW w (fun _ => True) (.slice none 0 0) [] := ⟨by simp, none, 0, rfl, by simp, fun i h => by simp at h⟩
theorem rb_none (w : World) : RB w (fun _ => True) (.slice none 0 0) [] := RB.nil w _

theorem rb2_of_rows {w : World} {a : Addr} {len cap : Nat} {A : Nat → Option Addr} {L C : Nat → Nat} {Z : Nat → List Int} (hl : len ≤ cap) (hm : cap ≤ maxLen)
    (h : ∀ r, r < cap → w.cell? (a.add r) = some (.slice (A r) (L r) (C r)) ∧ L r ≤ C r ∧ C r ≤ maxLen ∧ (Z r).length = C r ∧ (∀ n ∈ Z r, (Lit.int .u8 n).wf = true) ∧ (A r = none → C r = 0) ∧
        ∀ a', A r = some a' → ∀ c, c < C r → w.cell? (a'.add c) = some (.int .u8 ((Z r).getD c 0))) : ∃ ls, RB2 w (fun _ => True) (.slice (some a) len cap) ls := by
  have each : ∀ r, r < cap → ∃ l, RB w (fun _ => True) (.slice (A r) (L r) (C r)) l := by
    intro r hr
    obtain ⟨_, h2, h3, h4, h5, h6, h7⟩ := h r hr
    cases hA : A r with
    | none =>
      have := h6 hA
      obtain ⟨e1, e2⟩ : L r = 0 ∧ C r = 0 := by omega
      rw [e1, e2]
      exact ⟨[], RB.nil w _⟩
    | some a' => exact rb_of_ints h2 h3 h4 (by rw [h4]; exact h7 a' hA) h5
  obtain ⟨f, hf⟩ := Go.Deep.choose_lt each
  refine ⟨(List.range len).map f, by simp only [maxLen] at hm; simp; omega, some a, cap, by simp, by simp; exact hl, fun i hi => ?_⟩
  have hi' : i < len := by simpa using hi
  obtain ⟨b, off, spot⟩ := a
  have hspot : spot = none := by simpa [Addr.add] using World.cell?_spot (h 0 (by omega)).1
  subst hspot
  refine ⟨b, off, _, rfl, trivial, by rw [← Go.WideShapes.add_plain]; exact (h i (by omega)).1, ?_⟩
  simpa using hf i (by omega)
end Go.Proofs.YtabjihchcmjdmaaDoor
/-
  From what a call is handed to ipv4.Packet. By an AI agent.
-/
namespace Go.Proofs.YtabjihchcmjdmaaDoor
open Go.RowKit Go.ChangeShapes Go.WideShapes

theorem pk_open_cells : Tryd.prog.cellsOf 27 = 10 ∧ Tryd.prog.cellsOf 5 = 1 ∧ Tryd.prog.cellsOf 22 = 1 ∧ Tryd.prog.cellsOf 4 = 1 ∧ Tryd.prog.cellsOf 3 = 1 ∧ Tryd.prog.cellsOf 24 = 1 ∧ Tryd.prog.cellsOf 25 = 1 := by
  refine ⟨?_, ?_, ?_, ?_, ?_, ?_, ?_⟩ <;> kernel_rfl
set_option maxRecDepth 100000 in
set_option maxHeartbeats 1000000 in
theorem pk_open_trod {H : Type} {enc : TypeId × Value → H} {w : World} {m : Nat} {l : List Value} {y : DataW H × List MemPlace}
    (hf' : DataW.trod enc Tryd.prog w 0 (fun _ => true) true m 27 l = some y) : ∃ p A c, Pk.ok p ∧ pkv p (.slice A p.b.length c) = .agg l.toArray ∧ RB w (fun _ => True) (.slice A p.b.length c) p.b ∧ (A = none → c = 0) := by
  obtain ⟨xs, k, _, _, hlen, hxl, hel⟩ := DataW.trod_struct Tryd.underlying27 hf'
  rw [pk_open_cells.1] at hlen
  match xs, hxl with
  | [y0, y1, y2, y3, y4, y5, y6, y7, y8, y9], _ =>
    have g0 := hel 0 _ rfl
    have g1 := hel 1 _ rfl
    have g2 := hel 2 _ rfl
    have g3 := hel 3 _ rfl
    have g4 := hel 4 _ rfl
    have g5 := hel 5 _ rfl
    have g6 := hel 6 _ rfl
    have g7 := hel 7 _ rfl
    have g8 := hel 8 _ rfl
    have g9 := hel 9 _ rfl
    obtain ⟨_, p0, p1, p2, p3, p4, p5⟩ := pk_open_cells
    simp [p0] at g0
    simp [p1] at g1
    simp [p2] at g2
    simp [p2] at g3
    simp [p3] at g4
    simp [p0] at g5
    simp [p0] at g6
    simp [p4] at g7
    simp [p4] at g8
    simp [p5] at g9
    obtain ⟨v0, hv0, _, hw0⟩ := DataW.trod_int Tryd.underlying5 g0
    have b0 : 0 ≤ v0 ∧ v0 ≤ 255 := by simpa [Lit.wf, IntKind.min, IntKind.max, IntKind.signed, IntKind.bits] using hw0
    obtain ⟨v1, hv1, _, hw1⟩ := DataW.trod_int Tryd.underlying22 g1
    have b1 : 0 ≤ v1 ∧ v1 ≤ 65535 := by simpa [Lit.wf, IntKind.min, IntKind.max, IntKind.signed, IntKind.bits] using hw1
    obtain ⟨v2, hv2, _⟩ := DataW.trod_bool Tryd.underlying4 g2
    obtain ⟨v3, hv3, _⟩ := DataW.trod_bool Tryd.underlying4 g3
    obtain ⟨v4, hv4, _, hw4⟩ := DataW.trod_int Tryd.underlying3 g4
    have b4 : -9223372036854775808 ≤ v4 ∧ v4 ≤ 9223372036854775807 := by simpa [Lit.wf, IntKind.min, IntKind.max, IntKind.signed, IntKind.bits] using hw4
    obtain ⟨v5, hv5, _, hw5⟩ := DataW.trod_int Tryd.underlying5 g5
    have b5 : 0 ≤ v5 ∧ v5 ≤ 255 := by simpa [Lit.wf, IntKind.min, IntKind.max, IntKind.signed, IntKind.bits] using hw5
    obtain ⟨v6, hv6, _, hw6⟩ := DataW.trod_int Tryd.underlying5 g6
    have b6 : 0 ≤ v6 ∧ v6 ≤ 255 := by simpa [Lit.wf, IntKind.min, IntKind.max, IntKind.signed, IntKind.bits] using hw6
    obtain ⟨v7, hv7, _, hw7⟩ := DataW.trod_int Tryd.underlying24 g7
    have b7 : 0 ≤ v7 ∧ v7 ≤ 4294967295 := by simpa [Lit.wf, IntKind.min, IntKind.max, IntKind.signed, IntKind.bits] using hw7
    obtain ⟨v8, hv8, _, hw8⟩ := DataW.trod_int Tryd.underlying24 g8
    have b8 : 0 ≤ v8 ∧ v8 ≤ 4294967295 := by simpa [Lit.wf, IntKind.min, IntKind.max, IntKind.signed, IntKind.bits] using hw8
    obtain ⟨A, len, c, lb, hv9, hrb, hz⟩ : ∃ A len c lb, (l.drop 9).take 1 = [.slice A len c] ∧ RB w (fun _ => True) (.slice A len c) lb ∧ (A = none → c = 0) := by
      rcases open_ints Tryd.underlying25 Tryd.underlying5 p5 g9 with ⟨hcs, _⟩ | ⟨x, len, c, zs, hcs, _, hl, hm, hz, _, hc, hw⟩
      · exact ⟨none, 0, 0, [], hcs, RB.nil w _, fun _ => rfl⟩
      · obtain ⟨lb, hlb⟩ := rb_of_ints hl hm (by simpa using hz) hc hw
        exact ⟨some x, len, c, lb, hcs, hlb, fun h => by cases h⟩
    have hln : len = lb.length := by obtain ⟨_, _, _, e, _⟩ := hrb; injection e
    subst hln
    refine ⟨⟨v0, v1, v2, v3, v4, v5, v6, v7, v8, lb⟩, A, c, ⟨b0, b1, b4, b5, b6, b7, b8⟩, ?_, hrb, hz⟩
    have e1 : l = l.take 1 ++ (l.drop 1).take 1 ++ (l.drop 2).take 1 ++ (l.drop 3).take 1 ++ (l.drop 4).take 1 ++ (l.drop 5).take 1 ++ (l.drop 6).take 1 ++ (l.drop 7).take 1 ++ (l.drop 8).take 1 ++ (l.drop 9).take 1 := by
      match l, hlen with
      | [_, _, _, _, _, _, _, _, _, _], _ => rfl
    have e2 : l = [.int .u8 v0, .int .u16 v1, .bool v2, .bool v3, .int .i64 v4, .int .u8 v5, .int .u8 v6, .int .u32 v7, .int .u32 v8, .slice A lb.length c] := by
      rw [e1, show l.take 1 = [.int .u8 v0] from hv0, show (l.drop 1).take 1 = [.int .u16 v1] by simpa using hv1, show (l.drop 2).take 1 = [.bool v2] by simpa using hv2, show (l.drop 3).take 1 = [.bool v3] by simpa using hv3, show (l.drop 4).take 1 = [.int .i64 v4] by simpa using hv4, show (l.drop 5).take 1 = [.int .u8 v5] by simpa using hv5, show (l.drop 6).take 1 = [.int .u8 v6] by simpa using hv6, show (l.drop 7).take 1 = [.int .u32 v7] by simpa using hv7, show (l.drop 8).take 1 = [.int .u32 v8] by simpa using hv8, show (l.drop 9).take 1 = [.slice A lb.length c] by simpa using hv9]
      rfl
    rw [e2]
    rfl
set_option maxRecDepth 100000 in
theorem pk_open {H : Type} {enc : TypeId × Value → H} {w : World} {r : Reach} {base : Nat} {v : Value} {d : DataW H} {p : List MemPlace} (hv : Value.okWide Tryd.prog w r base 27 v)
    (h : DataW.Trod enc Tryd.prog w 0 (fun _ => true) true 27 v d p) : ∃ f A c, Pk.ok f ∧ v = pkv f (.slice A f.b.length c) ∧ RB w (fun _ => True) (.slice A f.b.length c) f.b ∧ (A = none → c = 0) := by
  obtain ⟨cs, rfl, hsz⟩ := okWide_struct Tryd.underlying27 hv
  obtain ⟨fuel, hf⟩ := h
  have hf' : DataW.trod enc Tryd.prog w 0 (fun _ => true) true fuel 27 cs.toList = some (d, p) := hf
  obtain ⟨f, A, c, ok, e, hrb, hz⟩ := pk_open_trod hf'
  exact ⟨f, A, c, ok, e.symm, hrb, hz⟩
end Go.Proofs.YtabjihchcmjdmaaDoor
/-
  From what a call is handed to rows of ipv4.Packet. By an AI agent.
-/
namespace Go.Proofs.YtabjihchcmjdmaaDoor
open Go.RowKit Go.ChangeShapes

instance : Inhabited Pk := ⟨⟨0, 0, false, false, 0, 0, 0, 0, 0, []⟩⟩
/-- the ten cells of one packet -/
def pcl (p : Pk) (v : Value) : List Value := [.int .u8 p.tos, .int .u16 p.id, .bool p.df, .bool p.mf, .int .i64 p.off, .int .u8 p.ttl, .int .u8 p.pr, .int .u32 p.src, .int .u32 p.dst, v]
theorem pcl_pkv (p : Pk) (v : Value) : pkv p v = .agg (pcl p v).toArray := rfl
structure PkAt (w : World) (b o : Nat) (p : Pk) (A : Option Addr) (c : Nat) : Prop where
  cells : ∀ k v, (pcl p (.slice A p.b.length c))[k]? = some v → w.cell? ⟨b, o + k, none⟩ = some v
  bytes : RB w (fun _ => True) (.slice A p.b.length c) p.b
  ok : p.ok
  none : A = none → c = 0
/-- The slice v reads as these packets. -/
def RPk (w : World) (v : Value) (ps : List Pk) : Prop :=
  ps.length ≤ 9223372036854775807 ∧ ∃ A c, v = .slice A ps.length c ∧ ps.length ≤ c ∧
    ∀ i (h : i < ps.length), ∃ b off A' c', A = some ⟨b, off, none⟩ ∧ PkAt w b (off + i * 10) ps[i] A' c'
theorem PkAt.keep {w w' : World} {b o c : Nat} {p : Pk} {A : Option Addr} (h : PkAt w b o p A c) (hx : Ex (fun _ => False) w w') : PkAt w' b o p A c :=
  ⟨fun k v hk => hx.cell (h.cells k v hk) id, h.bytes.keep hx (fun _ _ _ => id), h.ok, h.none⟩
theorem RPk.keep {w w' : World} {v : Value} {ps : List Pk} (h : RPk w v ps) (hx : Ex (fun _ => False) w w') : RPk w' v ps := by
  obtain ⟨h1, A, c, h2, h3, h4⟩ := h
  refine ⟨h1, A, c, h2, h3, fun i hi => ?_⟩
  obtain ⟨b, off, A', c', e, hp⟩ := h4 i hi
  exact ⟨b, off, A', c', e, hp.keep hx⟩
set_option maxRecDepth 100000 in
theorem rpk_of_trod {H : Type} {enc : TypeId × Value → H} {w : World} {fuel : Nat} {a : Option Addr} {len cap : Nat} {x : DataW H × List MemPlace}
    (h : DataW.trod enc Tryd.prog w 0 (fun _ => true) true fuel 33 [.slice a len cap] = some x) : ∃ ps, RPk w (.slice a len cap) ps := by
  rcases Go.Deep.open_slice Tryd.underlying33 h with ⟨hcs, _⟩ | ⟨a', len', cap', m, n, D, Pl, hcs, _, hl, hm, hmm, _, hx⟩
  · simp at hcs
    obtain ⟨rfl, rfl, rfl⟩ := hcs
    exact ⟨[], by simp, none, 0, rfl, by simp, fun i hi => by simp at hi⟩
  · simp at hcs
    obtain ⟨rfl, rfl, rfl⟩ := hcs
    simp at hmm
    subst hmm
    have hspot : 0 < m → a'.spot = none := fun h0 => by
      obtain ⟨cs', h1, _⟩ := hx 0 h0
      rw [pk_open_cells.1] at h1
      obtain ⟨_, hlen, hcell⟩ := World.cells?_some h1
      have h2 := hcell 0 (by omega)
      rw [List.getElem?_eq_getElem (by omega), Go.Deep.add_add] at h2
      simpa [Addr.add] using World.cell?_spot h2
    have each : ∀ i, i < m → ∃ q : Pk × Option Addr × Nat, ∃ b off, a' = ⟨b, off, none⟩ ∧ PkAt w b (off + i * 10) q.1 q.2.1 q.2.2 := by
      intro i hi
      obtain ⟨cs', h1, h2⟩ := hx i hi
      rw [pk_open_cells.1] at h1
      obtain ⟨_, hlen, hcell⟩ := World.cells?_some h1
      obtain ⟨p, A, c, hok, hpv, hrb, hz⟩ := pk_open_trod h2
      have hcs : cs' = pcl p (.slice A p.b.length c) := by
        rw [pcl_pkv] at hpv
        injection hpv with hpv
        exact (List.toArray_inj hpv).symm
      obtain ⟨b, off, spot⟩ := a'
      obtain rfl : spot = none := hspot (by omega)
      refine ⟨(p, A, c), b, off, rfl, fun k v hk => ?_, hrb, hok, hz⟩
      have hk' : k < 10 := by
        have := (List.getElem?_eq_some_iff.1 hk).1
        simpa [pcl] using this
      have h3 := hcell k (by omega)
      rw [hcs, Go.Deep.add_add] at h3
      rw [hk] at h3
      simpa [Addr.add_lit, ← Nat.add_assoc] using h3
    obtain ⟨f, hf⟩ := Go.Deep.choose_lt each
    refine ⟨(List.range len).map fun i => (f i).1, by simp only [maxLen] at hm; simp; omega, some a', m, by simp, by simp; exact hl, fun i hi => ?_⟩
    have hi' : i < len := by simpa using hi
    obtain ⟨b, off, rfl, hp⟩ := hf i (by omega)
    exact ⟨b, off, (f i).2.1, (f i).2.2, rfl, by simpa using hp⟩
end Go.Proofs.YtabjihchcmjdmaaDoor
/-
  Rows of packets that the call itself makes; append of a packet. By an AI agent.
-/
namespace Go.Proofs.YtabjihchcmjdmaaDoor
open Go.RowKit

/-- a packet in its ten cells -/
def ocl (o : Pk × Option Addr × Nat) : List Value := pcl o.1 (.slice o.2.1 o.1.b.length o.2.2)
theorem ocl_len (o : Pk × Option Addr × Nat) : (ocl o).length = 10 := rfl
theorem flat10_len (os : List (Pk × Option Addr × Nat)) : (os.flatMap ocl).length = os.length * 10 := by
  induction os with
  | nil => rfl
  | cons o r ih => rw [List.flatMap_cons, List.length_append, ih, ocl_len, List.length_cons]; omega
theorem flat10_get : ∀ (os : List (Pk × Option Addr × Nat)) (i k : Nat) (h : i < os.length) (_hk : k < 10), (os.flatMap ocl)[i * 10 + k]? = (ocl os[i])[k]?
  | [], i, k, h, _ => absurd h (by simp)
  | o :: r, 0, k, _, hk => by
    rw [List.flatMap_cons, List.getElem?_append_left (by rw [ocl_len]; omega)]
    simp
  | o :: r, i + 1, k, h, hk => by
    rw [List.flatMap_cons, List.getElem?_append_right (by rw [ocl_len]; omega), ocl_len, show (i + 1) * 10 + k - 10 = i * 10 + k by omega, flat10_get r i k (by simpa using h) hk]
    simp
/-- The slice v owns these packets, in a block from B on. -/
def OP (w : World) (B : Nat) (v : Value) (os : List (Pk × Option Addr × Nat)) : Prop := w.ownsRow B 27 10 v os.length (os.flatMap ocl)
theorem OP.nil (w : World) (B : Nat) : OP w B (.slice none 0 0) [] := World.ownsRow_nil w B _ 10
theorem OP.shape {w : World} {B : Nat} {v : Value} {os : List (Pk × Option Addr × Nat)} (h : OP w B v os) : ∃ A c, v = .slice A os.length c := by
  rcases h.2 with ⟨hv, hl⟩ | ⟨g, cap, cur, hv, _⟩
  · exact ⟨none, 0, by rw [hl]; exact hv⟩
  · exact ⟨_, cap, hv⟩
theorem OP.keep {w w' : World} {S : Nat → Prop} {B : Nat} {v : Value} {os : List (Pk × Option Addr × Nat)} (h : OP w B v os) (hx : Ex S w w') (hs : ∀ k, v.ownBlock = some k → k < w.heap.size → B ≤ k → ¬ S k) : OP w' B v os := by
  refine ⟨h.1, ?_⟩
  rcases h.2 with hn | ⟨g, cap, cur, rfl, hb, hg, rest⟩
  · exact .inl hn
  · have hlt := (Array.getElem?_eq_some_iff.1 hg).1
    exact .inr ⟨g, cap, cur, rfl, hb, (hx.block g hlt (hs g rfl hlt hb)).trans hg, rest⟩
theorem OP.lt {w : World} {B : Nat} {v : Value} {os : List (Pk × Option Addr × Nat)} (h : OP w B v os) : ∀ k, v.ownBlock = some k → B ≤ k ∧ k < w.heap.size := World.ownsRow.lt h
theorem OP.get {w : World} {B : Nat} {v : Value} {os : List (Pk × Option Addr × Nat)} (h : OP w B v os) (i : Nat) (hi : i < os.length) : ∃ g c, v = .slice (some ⟨g, 0, none⟩) os.length c ∧ os.length ≤ c ∧ ∀ k u, (ocl os[i])[k]? = some u → w.cell? ⟨g, i * 10 + k, none⟩ = some u := by
  have h' := h
  rcases h'.2 with ⟨rfl, hl⟩ | ⟨g, cap, cur, rfl, hb, hg, hn, _⟩
  · omega
  · refine ⟨g, cap, rfl, hn, fun k u hk => ?_⟩
    have hk10 : k < 10 := by
      have := (List.getElem?_eq_some_iff.1 hk).1
      rw [ocl_len] at this; exact this
    have := World.ownsRow.cells h (g := g) rfl (i * 10 + k) u (by rw [flat10_get os i k hi hk10]; exact hk)
    simpa [Addr.add_lit] using this
theorem ocl_one (o : Pk × Option Addr × Nat) (u : Value) (h : u ∈ ocl o) : u.oneCell' = true := by
  simp only [ocl, pcl, List.mem_cons, List.not_mem_nil, or_false] at h
  rcases h with rfl | rfl | rfl | rfl | rfl | rfl | rfl | rfl | rfl | rfl <;> rfl
/-- append of one packet onto packets of the call's own, in the walk. -/
theorem wpList_append_op {Pr : Program} {w : World} {ops : Array Oper} {rest : List Oper} {o : Oper} {a : Act} {Q : Exit → Act → World → Prop} (i : TypeInfo) (t : TypeId) (z : Value) (bytes : Nat)
    (ht : Pr.underlying t = some (.slice 27)) (hi : Pr.info? 27 = some i) (hz : i.zero = some z) (hzs : z.cells.size = 10) (hsize : i.size = 10) (hby : i.bytes = bytes) (hb200 : bytes ≤ 200)
    (hgd : o.guard = none) (s x : Operand) (ho : o.op = .call { callee := .builtin .append, args := #[s, x], argTypes := #[t, t] })
    (B : Nat) (v : Value) (os : List (Pk × Option Addr × Nat)) (hs : a.eval s = v) (q : Pk × Option Addr × Nat) (g m c : Nat) (hx : a.eval x = .slice (some ⟨g, 0, none⟩) m c) (hm : m = 1)
    (hown : OP w B v os) (hr : ∀ k u, (ocl q)[k]? = some u → w.cell? ⟨g, k, none⟩ = some u) (hlen : os.length ≤ 300) (hbase : B ≤ w.heap.size)
    (h : ∀ A c w', OP w' B (.slice A (os.length + 1) c) (os ++ [q]) → w.grownBy w' v.ownBlock → ((Value.slice A (os.length + 1) c).ownBlock = v.ownBlock ∨ (Value.slice A (os.length + 1) c).ownBlock = some w.heap.size) → wpList Pr ops Q rest (a.put o.dst (.slice A (os.length + 1) c)) w') :
    wpList Pr ops Q (o :: rest) a w := by
  subst hm
  refine wpList_append_row hgd s x t ho B 27 i z 10 bytes ht hi hz hsize hby hzs (by decide) v os.length (os.flatMap ocl) hs hown (some ⟨g, 0, none⟩) 1 c hx (ocl q) (by rw [ocl_len]) ?_ (fun u hu => ocl_one q u hu) (by simp only [maxLen]; omega) ?_ hbase ?_
  · intro j u hu
    exact ⟨_, rfl, by rw [Addr.add_lit, Nat.zero_add]; exact hr j u hu⟩
  · have : (os.length + 1) * bytes ≤ 301 * 200 := Nat.mul_le_mul (by omega) hb200
    omega
  · intro v' w' ho' hg _ hb
    have hob : OP w' B v' (os ++ [q]) := by
      unfold OP
      rw [List.length_append, List.flatMap_append]
      simpa using ho'
    obtain ⟨A', c', rfl⟩ := hob.shape
    rw [List.length_append] at hob hb ⊢
    exact h A' c' w' hob hg hb
end Go.Proofs.YtabjihchcmjdmaaDoor
/-
  What the rows' condition on errors.errorType gives; a world that meets it. By an AI agent. (Turned from the worked example ToyasProofs.)
-/
namespace Go.Proofs.YtabjihchcmjdmaaDoor
open Go.ChangeShapes Go.WideShapes Go.RowKit

theorem laid_et : Tryd.prog.globalNamed "errors.errorType" = some 0 := by kernel_rfl
theorem laid_rt : (Tryd.prog.cutTypes.find? (·.1 == "internal/reflectlite.rtype")).map (·.2) = some 120 := by kernel_rfl
theorem laid_size : Tryd.prog.types.size = 179 := by kernel_rfl
theorem laid_row : ((List.range 179).filter fun t => Tryd.prog.rowNamed t [101, 114, 114, 111, 114]) = [35] := by kernel_rfl

theorem et_of_laid {W : World} (h : laidMetH Tryd.prog [("errors.errorType", Rows.laid_errors_errorType)] W) : ET W := by
  have h' : laidMet Tryd.prog [] W ∧ handlesMet Tryd.prog [("errors.errorType", Rows.laid_errors_errorType)] W := h
  obtain ⟨name, u, ty, e1, e2, e3, e4, e5⟩ := h'.2 _ (List.mem_singleton.2 rfl)
  have en : name = [101, 114, 114, 111, 114] := (Option.some.inj e1).symm
  subst en
  obtain rfl := Option.some.inj (laid_rt.symm.trans e2)
  have hm : ty ∈ (List.range 179).filter fun t => Tryd.prog.rowNamed t [101, 114, 114, 111, 114] := List.mem_filter.2 ⟨List.mem_range.2 (by rw [← laid_size]; exact e3), e4⟩
  rw [laid_row] at hm
  obtain rfl := List.mem_singleton.1 hm
  have hh : typeHandle Tryd.prog 35 = .pointer (some ⟨4, 35, none⟩) := by kernel_rfl
  rw [hh] at e5
  show W.cell? _ = _
  simpa using World.var?_cell laid_et e5 0

/-- a world that meets the condition: the settled one, the variable's cell laid -/
noncomputable def laidWorld (os : Os) : World :=
  let w0 := World.holding Tryd.prog os ⟨#[], #[], []⟩
  { w0 with heap := w0.heap.modify 0 fun
      | .cells _ t frozen => .cells #[.iface 120 (.agg #[.pointer (some ⟨4, 35, none⟩)])] t frozen
      | o => o }
theorem laidWorld_met (os : Os) (args : Array Value) : laidMetH Tryd.prog [("errors.errorType", Rows.laid_errors_errorType)] ((laidWorld os).forCall (fun _ _ => 0) ⟨#[], args, []⟩).memory :=
  laidMetH_of_parts (laidMet_nil _ _) (by kernel_rfl)
end Go.Proofs.YtabjihchcmjdmaaDoor
/-
  The contract of frag.Split: the ways ahead of the loop. By an AI agent.
-/
namespace Go.Proofs.YtabjihchcmjdmaaDoor
open Go.RowKit

/-- a packet's bytes as a slice -/
def ov (o : Pk × Option Addr × Nat) : Value := .slice o.2.1 o.1.b.length o.2.2
/-- packets whose bytes lie each in a block of its own, from B on -/
def OBS (w : World) (B : Nat) (os : List (Pk × Option Addr × Nat)) : Prop :=
  (∀ o ∈ os, OB w B (ov o) o.1.b) ∧ os.Pairwise (fun o o' => ∀ k, (ov o).ownBlock = some k → (ov o').ownBlock ≠ some k)
theorem OBS.nil (w : World) (B : Nat) : OBS w B [] := ⟨fun _ h => by simp at h, List.Pairwise.nil⟩
theorem OBS.one {w : World} {B : Nat} {o : Pk × Option Addr × Nat} (h : OB w B (ov o) o.1.b) : OBS w B [o] :=
  ⟨fun o' h' => by rw [List.mem_singleton] at h'; subst h'; exact h, List.pairwise_singleton _ _⟩
theorem OBS.keep {w w' : World} {S : Nat → Prop} {B : Nat} {os : List (Pk × Option Addr × Nat)} (h : OBS w B os) (hx : Ex S w w') (hs : ∀ o ∈ os, ∀ k, (ov o).ownBlock = some k → k < w.heap.size → B ≤ k → ¬ S k) : OBS w' B os :=
  ⟨fun o ho => (h.1 o ho).keep hx (hs o ho), h.2⟩
theorem OBS.snoc {w : World} {B C : Nat} {os : List (Pk × Option Addr × Nat)} {o : Pk × Option Addr × Nat} (h : OBS w B os) (ho : OB w C (ov o) o.1.b) (hBC : B ≤ C) (hlt : ∀ o' ∈ os, ∀ k, (ov o').ownBlock = some k → k < C) : OBS w B (os ++ [o]) := by
  refine ⟨fun o' h' => ?_, ?_⟩
  · rcases List.mem_append.1 h' with h' | h'
    · exact h.1 o' h'
    · rw [List.mem_singleton] at h'; subst h'; exact ho.mono hBC
  · rw [List.pairwise_append]
    refine ⟨h.2, List.pairwise_singleton _ _, fun a ha b hb k hk => ?_⟩
    rw [List.mem_singleton] at hb; subst hb
    intro hk2
    have h1 := hlt a ha k hk
    have h2 := (ho.lt k hk2).1
    omega
theorem OP.mono {w : World} {B B' : Nat} {v : Value} {os : List (Pk × Option Addr × Nat)} (h : OP w B v os) (hb : B' ≤ B) : OP w B' v os := by
  refine ⟨h.1, ?_⟩
  rcases h.2 with hn | ⟨g, cap, cur, e, hg, rest⟩
  · exact .inl hn
  · exact .inr ⟨g, cap, cur, e, Nat.le_trans hb hg, rest⟩
theorem OP.one {w : World} (o : Pk × Option Addr × Nat) : OP (w.alloc (.cells (ocl o).toArray 27)) w.heap.size (.slice (some ⟨w.heap.size, 0, none⟩) 1 1) [o] :=
  ⟨by simp [ocl_len], .inr ⟨w.heap.size, 1, (ocl o).toArray, rfl, Nat.le_refl _, heap_alloc_new w _, Nat.le_refl _, by simp [maxLen], by simp [ocl_len], by simp; rfl⟩⟩
theorem OBS.mono {w : World} {B B' : Nat} {os : List (Pk × Option Addr × Nat)} (h : OBS w B os) (hb : B' ≤ B) : OBS w B' os := ⟨fun o ho => (h.1 o ho).mono hb, h.2⟩
set_option maxRecDepth 100000 in
set_option maxHeartbeats 4000000 in
theorem split_1 (P : Nat → Prop) (p : Pk) (A : Option Addr) (c : Nat) (m : Int) (w : World) (hr : RB w P (.slice A p.b.length c) p.b) (hA : A = none → c = 0) (hl : p.b.length ≤ 100000000) (h : m < 68) :
    Calls Tryd.prog 15 #[pkv p (.slice A p.b.length c), .int .i64 m] w fun e w' => ∃ t y, e = .returned (.tuple #[.slice none 0 0, .iface t y]) ∧ EC w' (fun j => w.heap.size ≤ j) [lay10] (.iface t y) 1 ∧ Ex (fun _ => False) w w' := by
  have HR := Lib.hid hr
  have HA := Lib.hid hA
  have HL := Lib.hid hl
  clear hr hA hl
  have hright := fun w hn => right_any p A c w hn
  have HRT := h
  clear hright h
  obtain ⟨xtos, xid, xdf, xmf, xoff, xttl, xpr, xsrc, xdst, xb⟩ := p
  simp only at HR HL HRT
  show Calls Tryd.prog 15 #[.agg #[.int .u8 xtos, .int .u16 xid, .bool xdf, .bool xmf, .int .i64 xoff, .int .u8 xttl, .int .u8 xpr, .int .u32 xsrc, .int .u32 xdst, .slice A xb.length c], .int .i64 m] w _
  go_enter Tryd.func15, Tryd.ntmps15
  go_upto_region 1 with fail
  have hx : Ex (fun _ => False) w (w.alloc (.cells #[.int .u8 xtos, .int .u16 xid, .bool xdf, .bool xmf, .int .i64 xoff, .int .u8 xttl, .int .u8 xpr, .int .u32 xsrc, .int .u32 xdst, .slice A xb.length c] 27)) := (Ex.refl _ w).alloc _
  have hb : (w.alloc (.cells #[.int .u8 xtos, .int .u16 xid, .bool xdf, .bool xmf, .int .i64 xoff, .int .u8 xttl, .int .u8 xpr, .int .u32 xsrc, .int .u32 xdst, .slice A xb.length c] 27)).heap[w.heap.size]? = some (.cells #[.int .u8 xtos, .int .u16 xid, .bool xdf, .bool xmf, .int .i64 xoff, .int .u8 xttl, .int .u8 xpr, .int .u32 xsrc, .int .u32 xdst, .slice A xb.length c] 27) := heap_alloc_new w _
  obtain ⟨pb, hpb⟩ : ∃ pb, pb = w.heap.size := ⟨_, rfl⟩
  have hb_pb : w.heap.size ≤ pb := by omega
  rw [← hpb] at hb
  try simp only [← hpb]
  generalize w.alloc (.cells #[.int .u8 xtos, .int .u16 xid, .bool xdf, .bool xmf, .int .i64 xoff, .int .u8 xttl, .int .u8 xpr, .int .u32 xsrc, .int .u32 xdst, .slice A xb.length c] 27) = w1 at hx hb ⊢
  clear hpb
  have HX_w1 := Lib.hid hx
  clear hx
  have B_pb := Lib.hid hb
  clear hb
  go_wp2_with fail
  refine (wrong10_no 1 w1).mono ?_
  rintro e w2 ⟨v, rfl, he, hx⟩
  have HE := Lib.hid he
  clear he
  have HX_w2 := Lib.hid hx
  clear hx
  obtain ⟨t9, y9, rfl⟩ := HE.out.shape
  go_wp2_with fail
  go_ret2
  have hz9 := HX_w1.out.size
  exact ⟨t9, y9, rfl, EC.mono (fun j hj => by omega) HE.out, (HX_w1.out.trans HX_w2.out)⟩
set_option maxRecDepth 100000 in
set_option maxHeartbeats 4000000 in
theorem split_2 (P : Nat → Prop) (p : Pk) (A : Option Addr) (c : Nat) (m : Int) (w : World) (hr : RB w P (.slice A p.b.length c) p.b) (hA : A = none → c = 0) (hl : p.b.length ≤ 100000000) (h : 68 ≤ m) (h2 : p.right ≠ 0) :
    Calls Tryd.prog 15 #[pkv p (.slice A p.b.length c), .int .i64 m] w fun e w' => ∃ t y, e = .returned (.tuple #[.slice none 0 0, .iface t y]) ∧ EC w' (fun j => w.heap.size ≤ j) [lay10, lay5] (.iface t y) p.right ∧ Ex (fun _ => False) w w' := by
  have HR := Lib.hid hr
  have HA := Lib.hid hA
  have HL := Lib.hid hl
  clear hr hA hl
  have hright := fun w hn => right_any p A c w hn
  have HRT := fun w => right_no p A c w (by have := HL.out; omega) h2
  clear hright h2
  have h' : ¬ m < 68 := by omega
  clear h
  obtain ⟨k, hk⟩ : ∃ k, p.right = k := ⟨_, rfl⟩
  rw [hk] at HRT ⊢
  clear hk
  replace HRT := Lib.hid HRT
  obtain ⟨xtos, xid, xdf, xmf, xoff, xttl, xpr, xsrc, xdst, xb⟩ := p
  simp only at HR HL HRT
  show Calls Tryd.prog 15 #[.agg #[.int .u8 xtos, .int .u16 xid, .bool xdf, .bool xmf, .int .i64 xoff, .int .u8 xttl, .int .u8 xpr, .int .u32 xsrc, .int .u32 xdst, .slice A xb.length c], .int .i64 m] w _
  go_enter Tryd.func15, Tryd.ntmps15
  go_upto_region 1 with fail
  have hx : Ex (fun _ => False) w (w.alloc (.cells #[.int .u8 xtos, .int .u16 xid, .bool xdf, .bool xmf, .int .i64 xoff, .int .u8 xttl, .int .u8 xpr, .int .u32 xsrc, .int .u32 xdst, .slice A xb.length c] 27)) := (Ex.refl _ w).alloc _
  have hb : (w.alloc (.cells #[.int .u8 xtos, .int .u16 xid, .bool xdf, .bool xmf, .int .i64 xoff, .int .u8 xttl, .int .u8 xpr, .int .u32 xsrc, .int .u32 xdst, .slice A xb.length c] 27)).heap[w.heap.size]? = some (.cells #[.int .u8 xtos, .int .u16 xid, .bool xdf, .bool xmf, .int .i64 xoff, .int .u8 xttl, .int .u8 xpr, .int .u32 xsrc, .int .u32 xdst, .slice A xb.length c] 27) := heap_alloc_new w _
  obtain ⟨pb, hpb⟩ : ∃ pb, pb = w.heap.size := ⟨_, rfl⟩
  have hb_pb : w.heap.size ≤ pb := by omega
  rw [← hpb] at hb
  try simp only [← hpb]
  generalize w.alloc (.cells #[.int .u8 xtos, .int .u16 xid, .bool xdf, .bool xmf, .int .i64 xoff, .int .u8 xttl, .int .u8 xpr, .int .u32 xsrc, .int .u32 xdst, .slice A xb.length c] 27) = w1 at hx hb ⊢
  clear hpb
  have HX_w1 := Lib.hid hx
  clear hx
  have B_pb := Lib.hid hb
  clear hb
  have cpb0 := row_cell (k := 0) (v := .int .u8 xtos) B_pb.out rfl
  have cpb1 := row_cell (k := 1) (v := .int .u16 xid) B_pb.out rfl
  have cpb2 := row_cell (k := 2) (v := .bool xdf) B_pb.out rfl
  have cpb3 := row_cell (k := 3) (v := .bool xmf) B_pb.out rfl
  have cpb4 := row_cell (k := 4) (v := .int .i64 xoff) B_pb.out rfl
  have cpb5 := row_cell (k := 5) (v := .int .u8 xttl) B_pb.out rfl
  have cpb6 := row_cell (k := 6) (v := .int .u8 xpr) B_pb.out rfl
  have cpb7 := row_cell (k := 7) (v := .int .u32 xsrc) B_pb.out rfl
  have cpb8 := row_cell (k := 8) (v := .int .u32 xdst) B_pb.out rfl
  have cpb9 := row_cell (k := 9) (v := .slice A xb.length c) B_pb.out rfl
  go_wp2_with fail
  refine (HRT.out w1).mono ?_
  rintro e w2 ⟨t, y, rfl, he, hx⟩
  clear cpb0 cpb1 cpb2 cpb3 cpb4 cpb5 cpb6 cpb7 cpb8 cpb9
  have HX_w2 := Lib.hid hx
  clear hx
  have HE0 := Lib.hid he
  clear he
  go_wp2_with fail
  refine (wrong10_any _ _ _ _ w2 HE0.out).mono ?_
  rintro e w3 ⟨v, rfl, he, hx⟩
  have HE := Lib.hid he
  clear he
  have HX_w3 := Lib.hid hx
  clear hx
  have hz1 := HX_w1.out.size
  have hz2 := (HX_w1.out.trans HX_w2.out).size
  obtain ⟨t9, y9, rfl⟩ := HE.out.shape
  go_wp2_with fail
  go_ret2
  exact ⟨t9, y9, rfl, EC.mono (fun j hj => by rcases hj with h | h <;> omega) HE.out, ((HX_w1.out.trans HX_w2.out).trans HX_w3.out)⟩
set_option maxRecDepth 100000 in
set_option maxHeartbeats 4000000 in
theorem split_3 (P : Nat → Prop) (p : Pk) (A : Option Addr) (c : Nat) (m : Int) (w : World) (hr : RB w P (.slice A p.b.length c) p.b) (hA : A = none → c = 0) (hl : p.b.length ≤ 100000000) (h : 68 ≤ m) (h2 : p.right = 0) (h3 : 20 + (p.b.length : Int) ≤ m) :
    Calls Tryd.prog 15 #[pkv p (.slice A p.b.length c), .int .i64 m] w fun e w' => ∃ A' c' A1 c1, e = .returned (.tuple #[.slice (some A') 1 c', .nilIface]) ∧ OP w' w.heap.size (.slice (some A') 1 c') [(p, A1, c1)] ∧ OBS w' w.heap.size [(p, A1, c1)] ∧ Ex (fun _ => False) w w' := by
  have HR := Lib.hid hr
  have HA := Lib.hid hA
  have HL := Lib.hid hl
  clear hr hA hl
  have hright := fun w hn => right_any p A c w hn
  have HRT := fun w => right_yes p A c w (by have := HL.out; omega) h2
  clear hright h2
  have h' : ¬ m < 68 := by omega
  clear h
  replace HRT := Lib.hid HRT

  obtain ⟨xtos, xid, xdf, xmf, xoff, xttl, xpr, xsrc, xdst, xb⟩ := p
  simp only at HR HL HRT
  show Calls Tryd.prog 15 #[.agg #[.int .u8 xtos, .int .u16 xid, .bool xdf, .bool xmf, .int .i64 xoff, .int .u8 xttl, .int .u8 xpr, .int .u32 xsrc, .int .u32 xdst, .slice A xb.length c], .int .i64 m] w _
  go_enter Tryd.func15, Tryd.ntmps15
  go_upto_region 1 with fail
  have hx : Ex (fun _ => False) w (w.alloc (.cells #[.int .u8 xtos, .int .u16 xid, .bool xdf, .bool xmf, .int .i64 xoff, .int .u8 xttl, .int .u8 xpr, .int .u32 xsrc, .int .u32 xdst, .slice A xb.length c] 27)) := (Ex.refl _ w).alloc _
  have hb : (w.alloc (.cells #[.int .u8 xtos, .int .u16 xid, .bool xdf, .bool xmf, .int .i64 xoff, .int .u8 xttl, .int .u8 xpr, .int .u32 xsrc, .int .u32 xdst, .slice A xb.length c] 27)).heap[w.heap.size]? = some (.cells #[.int .u8 xtos, .int .u16 xid, .bool xdf, .bool xmf, .int .i64 xoff, .int .u8 xttl, .int .u8 xpr, .int .u32 xsrc, .int .u32 xdst, .slice A xb.length c] 27) := heap_alloc_new w _
  obtain ⟨pb, hpb⟩ : ∃ pb, pb = w.heap.size := ⟨_, rfl⟩
  have hb_pb : w.heap.size ≤ pb := by omega
  rw [← hpb] at hb
  try simp only [← hpb]
  generalize w.alloc (.cells #[.int .u8 xtos, .int .u16 xid, .bool xdf, .bool xmf, .int .i64 xoff, .int .u8 xttl, .int .u8 xpr, .int .u32 xsrc, .int .u32 xdst, .slice A xb.length c] 27) = w1 at hx hb ⊢
  clear hpb
  have HX_w1 := Lib.hid hx
  clear hx
  have B_pb := Lib.hid hb
  clear hb
  have cpb0 := row_cell (k := 0) (v := .int .u8 xtos) B_pb.out rfl
  have cpb1 := row_cell (k := 1) (v := .int .u16 xid) B_pb.out rfl
  have cpb2 := row_cell (k := 2) (v := .bool xdf) B_pb.out rfl
  have cpb3 := row_cell (k := 3) (v := .bool xmf) B_pb.out rfl
  have cpb4 := row_cell (k := 4) (v := .int .i64 xoff) B_pb.out rfl
  have cpb5 := row_cell (k := 5) (v := .int .u8 xttl) B_pb.out rfl
  have cpb6 := row_cell (k := 6) (v := .int .u8 xpr) B_pb.out rfl
  have cpb7 := row_cell (k := 7) (v := .int .u32 xsrc) B_pb.out rfl
  have cpb8 := row_cell (k := 8) (v := .int .u32 xdst) B_pb.out rfl
  have cpb9 := row_cell (k := 9) (v := .slice A xb.length c) B_pb.out rfl
  go_wp2_with fail
  refine (HRT.out w1).mono ?_
  rintro e w2 ⟨rfl, hx⟩
  clear cpb0 cpb1 cpb2 cpb3 cpb4 cpb5 cpb6 cpb7 cpb8 cpb9
  have HX_w2 := Lib.hid hx
  clear hx
  have h3' : 20 + (xb.length : Int) ≤ m := h3
  clear h3
  obtain ⟨hw1, hw2⟩ : wrap64 (20 + (xb.length : Int)) = 20 + (xb.length : Int) ∧ IntKind.i64.wrap (20 + (xb.length : Int)) = 20 + (xb.length : Int) := by
    have := HL.out
    refine ⟨?_, ?_⟩
    · unfold wrap64; omega
    · rw [IntKind.wrap_i64]; omega
  replace B_pb := Lib.hid ((HX_w2.out.block pb (row_lt B_pb.out) id).trans B_pb.out)
  have cpb0 := row_cell (k := 0) (v := .int .u8 xtos) B_pb.out rfl
  have cpb1 := row_cell (k := 1) (v := .int .u16 xid) B_pb.out rfl
  have cpb2 := row_cell (k := 2) (v := .bool xdf) B_pb.out rfl
  have cpb3 := row_cell (k := 3) (v := .bool xmf) B_pb.out rfl
  have cpb4 := row_cell (k := 4) (v := .int .i64 xoff) B_pb.out rfl
  have cpb5 := row_cell (k := 5) (v := .int .u8 xttl) B_pb.out rfl
  have cpb6 := row_cell (k := 6) (v := .int .u8 xpr) B_pb.out rfl
  have cpb7 := row_cell (k := 7) (v := .int .u32 xsrc) B_pb.out rfl
  have cpb8 := row_cell (k := 8) (v := .int .u32 xdst) B_pb.out rfl
  have cpb9 := row_cell (k := 9) (v := .slice A xb.length c) B_pb.out rfl
  go_wp2_with fail
  refine (own_any P (⟨xtos, xid, xdf, xmf, xoff, xttl, xpr, xsrc, xdst, xb⟩ : Pk) A c w2 (RB.keep HR.out (HX_w1.out.trans HX_w2.out) (fun _ _ _ => id)) HA.out (by have := HL.out; show xb.length ≤ _; omega)).mono ?_
  rintro e w3 ⟨A1, c1, rfl, ho, hx⟩
  have hv : pkv (⟨xtos, xid, xdf, xmf, xoff, xttl, xpr, xsrc, xdst, xb⟩ : Pk) (.slice A1 (⟨xtos, xid, xdf, xmf, xoff, xttl, xpr, xsrc, xdst, xb⟩ : Pk).b.length c1) = .agg #[.int .u8 xtos, .int .u16 xid, .bool xdf, .bool xmf, .int .i64 xoff, .int .u8 xttl, .int .u8 xpr, .int .u32 xsrc, .int .u32 xdst, .slice A1 xb.length c1] := rfl
  rw [hv]
  clear hv cpb0 cpb1 cpb2 cpb3 cpb4 cpb5 cpb6 cpb7 cpb8 cpb9
  have HX_w3 := Lib.hid hx
  clear hx
  have HO := Lib.hid ho
  clear ho
  go_wp2_with fail
  go_ret2
  have ho1 := OP.one (w := w3) ((⟨xtos, xid, xdf, xmf, xoff, xttl, xpr, xsrc, xdst, xb⟩ : Pk), A1, c1)
  exact ⟨_, _, A1, c1, rfl, OP.mono ho1 ((HX_w1.out.trans HX_w2.out).trans HX_w3.out).size, OBS.one ((HO.out.alloc _).mono (HX_w1.out.trans HX_w2.out).size), (((HX_w1.out.trans HX_w2.out).trans HX_w3.out)).alloc _⟩
set_option maxRecDepth 100000 in
set_option maxHeartbeats 4000000 in
theorem split_4 (P : Nat → Prop) (p : Pk) (A : Option Addr) (c : Nat) (m : Int) (w : World) (hr : RB w P (.slice A p.b.length c) p.b) (hA : A = none → c = 0) (hl : p.b.length ≤ 100000000) (h : 68 ≤ m) (h2 : p.right = 0) (h3 : ¬ 20 + (p.b.length : Int) ≤ m) (h4 : p.df = true) :
    Calls Tryd.prog 15 #[pkv p (.slice A p.b.length c), .int .i64 m] w fun e w' => ∃ t y, e = .returned (.tuple #[.slice none 0 0, .iface t y]) ∧ EC w' (fun j => w.heap.size ≤ j) [lay10] (.iface t y) 7 ∧ Ex (fun _ => False) w w' := by
  have HR := Lib.hid hr
  have HA := Lib.hid hA
  have HL := Lib.hid hl
  clear hr hA hl
  have hright := fun w hn => right_any p A c w hn
  have HRT := fun w => right_yes p A c w (by have := HL.out; omega) h2
  clear hright h2
  have h' : ¬ m < 68 := by omega
  clear h
  replace HRT := Lib.hid HRT
  have H3 := Lib.hid h3
  have H4 := Lib.hid h4
  clear h3 h4
  obtain ⟨xtos, xid, xdf, xmf, xoff, xttl, xpr, xsrc, xdst, xb⟩ := p
  simp only at HR HL HRT
  show Calls Tryd.prog 15 #[.agg #[.int .u8 xtos, .int .u16 xid, .bool xdf, .bool xmf, .int .i64 xoff, .int .u8 xttl, .int .u8 xpr, .int .u32 xsrc, .int .u32 xdst, .slice A xb.length c], .int .i64 m] w _
  go_enter Tryd.func15, Tryd.ntmps15
  go_upto_region 1 with fail
  have hx : Ex (fun _ => False) w (w.alloc (.cells #[.int .u8 xtos, .int .u16 xid, .bool xdf, .bool xmf, .int .i64 xoff, .int .u8 xttl, .int .u8 xpr, .int .u32 xsrc, .int .u32 xdst, .slice A xb.length c] 27)) := (Ex.refl _ w).alloc _
  have hb : (w.alloc (.cells #[.int .u8 xtos, .int .u16 xid, .bool xdf, .bool xmf, .int .i64 xoff, .int .u8 xttl, .int .u8 xpr, .int .u32 xsrc, .int .u32 xdst, .slice A xb.length c] 27)).heap[w.heap.size]? = some (.cells #[.int .u8 xtos, .int .u16 xid, .bool xdf, .bool xmf, .int .i64 xoff, .int .u8 xttl, .int .u8 xpr, .int .u32 xsrc, .int .u32 xdst, .slice A xb.length c] 27) := heap_alloc_new w _
  obtain ⟨pb, hpb⟩ : ∃ pb, pb = w.heap.size := ⟨_, rfl⟩
  have hb_pb : w.heap.size ≤ pb := by omega
  rw [← hpb] at hb
  try simp only [← hpb]
  generalize w.alloc (.cells #[.int .u8 xtos, .int .u16 xid, .bool xdf, .bool xmf, .int .i64 xoff, .int .u8 xttl, .int .u8 xpr, .int .u32 xsrc, .int .u32 xdst, .slice A xb.length c] 27) = w1 at hx hb ⊢
  clear hpb
  have HX_w1 := Lib.hid hx
  clear hx
  have B_pb := Lib.hid hb
  clear hb
  have cpb0 := row_cell (k := 0) (v := .int .u8 xtos) B_pb.out rfl
  have cpb1 := row_cell (k := 1) (v := .int .u16 xid) B_pb.out rfl
  have cpb2 := row_cell (k := 2) (v := .bool xdf) B_pb.out rfl
  have cpb3 := row_cell (k := 3) (v := .bool xmf) B_pb.out rfl
  have cpb4 := row_cell (k := 4) (v := .int .i64 xoff) B_pb.out rfl
  have cpb5 := row_cell (k := 5) (v := .int .u8 xttl) B_pb.out rfl
  have cpb6 := row_cell (k := 6) (v := .int .u8 xpr) B_pb.out rfl
  have cpb7 := row_cell (k := 7) (v := .int .u32 xsrc) B_pb.out rfl
  have cpb8 := row_cell (k := 8) (v := .int .u32 xdst) B_pb.out rfl
  have cpb9 := row_cell (k := 9) (v := .slice A xb.length c) B_pb.out rfl
  go_wp2_with fail
  refine (HRT.out w1).mono ?_
  rintro e w2 ⟨rfl, hx⟩
  clear cpb0 cpb1 cpb2 cpb3 cpb4 cpb5 cpb6 cpb7 cpb8 cpb9
  have HX_w2 := Lib.hid hx
  clear hx
  have h3' : decide (20 + (xb.length : Int) ≤ m) = false := decide_eq_false (by have h := H3.out; omega)
  have hdf : xdf = true := H4.out
  obtain ⟨hw1, hw2⟩ : wrap64 (20 + (xb.length : Int)) = 20 + (xb.length : Int) ∧ IntKind.i64.wrap (20 + (xb.length : Int)) = 20 + (xb.length : Int) := by
    have := HL.out
    refine ⟨?_, ?_⟩
    · unfold wrap64; omega
    · rw [IntKind.wrap_i64]; omega
  replace B_pb := Lib.hid ((HX_w2.out.block pb (row_lt B_pb.out) id).trans B_pb.out)
  have cpb0 := row_cell (k := 0) (v := .int .u8 xtos) B_pb.out rfl
  have cpb1 := row_cell (k := 1) (v := .int .u16 xid) B_pb.out rfl
  have cpb2 := row_cell (k := 2) (v := .bool xdf) B_pb.out rfl
  have cpb3 := row_cell (k := 3) (v := .bool xmf) B_pb.out rfl
  have cpb4 := row_cell (k := 4) (v := .int .i64 xoff) B_pb.out rfl
  have cpb5 := row_cell (k := 5) (v := .int .u8 xttl) B_pb.out rfl
  have cpb6 := row_cell (k := 6) (v := .int .u8 xpr) B_pb.out rfl
  have cpb7 := row_cell (k := 7) (v := .int .u32 xsrc) B_pb.out rfl
  have cpb8 := row_cell (k := 8) (v := .int .u32 xdst) B_pb.out rfl
  have cpb9 := row_cell (k := 9) (v := .slice A xb.length c) B_pb.out rfl
  go_wp2_with fail
  refine (wrong10_no 7 w2).mono ?_
  rintro e w3 ⟨v, rfl, he, hx⟩
  have HE := Lib.hid he
  clear he
  have HX_w3 := Lib.hid hx
  clear hx
  obtain ⟨t9, y9, rfl⟩ := HE.out.shape
  go_wp2_with fail
  go_ret2
  have hz9 := (HX_w1.out.trans HX_w2.out).size
  exact ⟨t9, y9, rfl, EC.mono (fun j hj => by omega) HE.out, ((HX_w1.out.trans HX_w2.out).trans HX_w3.out)⟩
end Go.Proofs.YtabjihchcmjdmaaDoor
/-
  What the plain walk shows of a region holds in a round of a range over a function, where the region holds no defer statement. By an AI agent.
-/
namespace Go.Proofs.YtabjihchcmjdmaaDoor
open Go.RowKit

/-- no operation of the region is a defer statement -/
def noDefer (ops : Array Oper) : Bool := ops.toList.all fun o => match o.op with | .defer _ => false | _ => true
theorem noDefer_spec {ops : Array Oper} (h : noDefer ops = true) {i : Nat} {o : Oper} (ho : ops[i]? = some o) (c : Go.Call) : o.op ≠ .defer c := by
  intro hc
  unfold noDefer at h
  rw [List.all_eq_true] at h
  have hm : o ∈ ops.toList := by
    rw [← Array.getElem?_toList] at ho
    exact List.mem_of_getElem? ho
  have := h o hm
  rw [hc] at this
  cases this
theorem oper_round {P : Program} {r n : Nat} {o : Oper} (hnd : ∀ c, o.op ≠ .defer c) {a : Act} {w : World} {K K' : Act → World → Prop} {Q : Exit → Act → World → Prop} (hK : ∀ a w, K a w → K' a w) (h : o.wp P a w K Q) :
    o.wpIn (Fence.wide.inRound r) n P a w K' Q := by
  refine ⟨fun _ _ => trivial, ?_⟩
  rw [show Oper.semAt (Fence.wide.inRound r).round a.eval o = execOp a.eval o from Oper.semAt_some r a.eval o hnd]
  unfold Oper.wp at h
  generalize (execOp a.eval o).run P w = q at *
  cases q with
  | ok m w' =>
    cases m <;> simp only [Oper.upon, Oper.uponIn] at h ⊢
    case value v => exact hK _ _ h
    case skip => exact hK _ _ h
    case defer d => exact hK _ _ h
    case enter f args =>
      refine ⟨(fun hd => by cases hd), CallsIn.inRound r (callsIn_wide.2 (h.mono ?_))⟩
      intro e w2 he
      cases e with
      | returned v => exact hK _ _ he
      | panicked c => exact he
      | outgrown => exact he
    case row row args =>
      refine ⟨(fun hd => by cases hd), ?_⟩
      have h2 : RowsIn Fence.wide (n - 1) P row args w' fun v w'' => K' (a.put o.dst v) w'' := fun c cs _ => let ⟨v, w2, r2, s2⟩ := h c cs; ⟨v, w2, hK _ _ r2, stepsIn_wide.2 s2⟩
      exact h2
  | halt x w' =>
    cases x <;> simp only [Oper.upon, Oper.uponIn] at h ⊢
    case panic v => exact h
theorem opsIn_round {P : Program} {r n : Nat} {ops : Array Oper} (hnd : noDefer ops = true) {Q : Exit → Act → World → Prop} (hout : ¬ LetsOut Q) :
    ∀ (l : List Nat) (a : Act) (w : World), wpOps P ops Q l a w → wpOpsIn (Fence.wide.inRound r) n P ops Q l a w
  | [], _, _, h => h
  | i :: rest, a, w, h => by
    simp only [wpOps, wpOpsIn] at h ⊢
    cases ho : ops[i]? with
    | none => simp only [ho] at h ⊢; exact opsIn_round hnd hout rest a w h
    | some o =>
      simp only [ho] at h ⊢
      split
      · rename_i hw
        rw [if_pos hw] at h
        rcases h with h | h
        · exact oper_round (noDefer_spec hnd ho) (fun a w h => opsIn_round hnd hout rest a w h) h
        · exact absurd h.2 hout
      · rename_i hw
        rw [if_neg hw] at h
        exact ⟨fun _ _ => trivial, opsIn_round hnd hout rest _ w h⟩
theorem anyIn_round {P : Program} {r n : Nat} {ops : Array Oper} (hnd : noDefer ops = true) {Q : Exit → Act → World → Prop} (hout : ¬ LetsOut Q) {md : Region.Mode} :
    ∀ (fuel : Nat) (listed : Array Bool) (a : Act) (w : World), wpAny P md ops Q fuel listed a w → wpAnyIn (Fence.wide.inRound r) n P md ops Q fuel listed a w
  | 0, _, _, _, h => h
  | fuel + 1, listed, a, w, h => by
    refine ⟨h.1, fun i hi => ?_⟩
    have h2 := h.2 i hi
    unfold wpOp at h2
    unfold wpOpIn
    cases ho : ops[i]? with
    | none => simp only [ho] at h2 ⊢; exact anyIn_round hnd hout fuel _ a w h2
    | some o =>
      simp only [ho] at h2 ⊢
      split
      · rename_i hw
        rw [if_pos hw] at h2
        rcases h2 with h2 | h2
        · exact oper_round (noDefer_spec hnd ho) (fun a w h => anyIn_round hnd hout fuel _ a w h) h2
        · exact absurd h2.2 hout
      · rename_i hw
        rw [if_neg hw] at h2
        exact ⟨fun _ _ => trivial, anyIn_round hnd hout fuel _ _ w h2⟩
/-- a region in a round, by the plain walk -/
theorem region_round {P : Program} {r n id : Nat} {l : List Oper} {Q : Exit → Act → World → Prop} {a : Act} {w : World} (hnd : noDefer l.toArray = true) (hout : ¬ LetsOut Q)
    (h : wpList P l.toArray Q l a w) : (Code.region id l.toArray false).wpIn (Fence.wide.inRound r) n P Q a w :=
  wpIn_region (opsIn_round hnd hout _ a w (by
    rw [List.range_eq_range', ← Array.length_toList, wpOps_eq_wpList (ops := l.toArray) l.toArray.toList 0 (by simp)]
    simpa using h))
/-- a region that draws its order, in a round, by the plain walk -/
theorem region_round_held {P : Program} {r n id : Nat} {ops : Array Oper} {Q : Exit → Act → World → Prop} {S : World → Prop} {a : Act} {w : World} (hm : P.follows .mixedOrders = true) (hnd : noDefer ops = true) (hout : ¬ LetsOut Q) (hS : S w.drew)
    (h : S w.drew → wpAnyH P .any ops Q S ops.size (Array.replicate ops.size false) a w.drew) : (Code.region id ops true).wpIn (Fence.wide.inRound r) n P Q a w :=
  wpIn_region_any hm (anyIn_round hnd hout _ _ _ _ (wpAny_of_held _ _ _ _ (h hS)))
/-- a range over a function, its one variable in a slot, its body never left: in the plain walk -/
theorem range_wide {P : Program} {α : Type} {g : Operand} {ps : Array Tmp} {assign body : Code} {Q : Exit → Act → World → Prop} {a : Act} {w : World} (slot : Tmp) (val : α → Value)
    {gf : Nat} {lb : Array Value} (hg : a.eval g = .func (.func gf) #[] lb) (eg : ∀ args w, (callFunc gf args).run P w = .ok (.enter gf args) w)
    {encs : α → Array Value} {Kp : World → World → Prop} {S Sp : List α → Prop} {N : Nat} (hseq : SeqStopsK Fence.wide 2 P gf lb encs Kp S Sp N w)
    (hKt : ∀ {A B C : World}, Kp A B → Kp B C → Kp A C) (hKb : ∀ (W : World) (l : Nat) (o o' : Obj), w.heap.size ≤ l → W.heap[l]? = some o → o.isCells = false → o.isWalk = false → Kp W (W.putObj l o')) (hps : ∀ x, (encs x).size = ps.size)
    (I : List α → World → Prop) (hI : OwnFrom w.heap.size I) (h0 : I [] w)
    (hassign : ∀ (l : Nat) (x : α) (W : World) (K : Act → World → Prop), K { tmps := ((ps.zip (encs x)).foldl (fun t (p, v) => t.setIfInBounds p v) a.tmps).setIfInBounds slot (val x), defers := [] } W →
      assign.wpIn (Fence.wide.inRound l) 1 P (Exit.then K (fun _ _ _ => False)) { tmps := (ps.zip (encs x)).foldl (fun t (p, v) => t.setIfInBounds p v) a.tmps, defers := [] } W)
    (hbody : ∀ (l : Nat) (pre : List α) (x : α) (W : World), I pre W → pre.length < N → body.wpIn (Fence.wide.inRound l) 1 P (ownPostK Kp I (fun _ _ _ => False) (pre ++ [x]) W) { tmps := ((ps.zip (encs x)).foldl (fun t (p, v) => t.setIfInBounds p v) a.tmps).setIfInBounds slot (val x), defers := [] } W)
    (hdone : ∀ (D : Nat) (xs : List α) (W : World), w.heap.size ≤ D → S xs → I xs W → W.heap[D]? = some (.deferred (some [])) → Q .normal { a with defers := { target := .collected D, args := #[] } :: a.defers } W) :
    (Code.rangeFunc g ps assign body).wp P Q a w :=
  wpIn_wide.1 (wpIn_rangeFunc_ownF (F := Fence.wide) (n := 3) rfl (by decide) hg trivial eg hseq hKt hKb (Below.refl _ _) hps I (fun _ _ _ => False) hI (fun _ _ _ _ _ h _ _ => h) h0
    (fun x => { tmps := ((ps.zip (encs x)).foldl (fun t (p, v) => t.setIfInBounds p v) a.tmps).setIfInBounds slot (val x), defers := [] }) hassign hbody hdone (fun _ _ _ _ _ _ h _ => h.elim))
end Go.Proofs.YtabjihchcmjdmaaDoor
/-
  slices.Chunk at bytes: the chunks, one by one. By an AI agent.
-/
namespace Go.Proofs.YtabjihchcmjdmaaDoor
open Go.RowKit

attribute [local go_sem] Oper.semAt_some

/-- how many chunks of z there are in n -/
def cn (z n : Nat) : Nat := (n + z - 1) / z
theorem cn_lt {z n k : Nat} (hz : 1 ≤ z) : k < cn z n ↔ k * z < n := by
  unfold cn
  rw [Nat.lt_iff_add_one_le, Nat.le_div_iff_mul_le (by omega), Nat.add_mul, Nat.one_mul]
  omega
/-- how long the k-th is -/
def ce (z n k : Nat) : Nat := min z (n - k * z)
/-- what a round that goes on keeps: the two variables that the iterator has captured -/
def Kb (Bs Bn : Nat) (W W' : World) : Prop := ∀ B, (B = Bs ∨ B = Bn) → W'.heap[B]? = W.heap[B]?
theorem Kb.trans {Bs Bn : Nat} {A B C : World} (h : Kb Bs Bn A B) (k : Kb Bs Bn B C) : Kb Bs Bn A C := fun x hx => (k x hx).trans (h x hx)
abbrev Ck (z n : Nat) := { k : Nat // k < cn z n }
def ckv (b off z n : Nat) (x : Ck z n) : Array Value := #[.slice (some ⟨b, off + x.1 * z, none⟩) (ce z n x.1) (ce z n x.1)]

theorem wrap_nn (a b : Nat) (h : a + b ≤ 4000000000) : wrap64 ((a : Int) + (b : Int)) = (a : Int) + (b : Int) ∧ IntKind.i64.wrap ((a : Int) + (b : Int)) = (a : Int) + (b : Int) := by
  refine ⟨?_, ?_⟩
  · unfold wrap64; omega
  · rw [IntKind.wrap_i64]; omega
theorem meas_nn {len z m : Nat} (hz : 1 ≤ z) (hlt : m < len) : len + z - (intOf (.int .i64 ((m : Int) + (z : Int)))).toNat < len + z - (intOf (.int .i64 (m : Int))).toNat := by
  simp only [intOf]
  omega
set_option maxRecDepth 100000 in
set_option maxHeartbeats 2000000 in
theorem chunk1_in (n base : Nat) (hn : 1 ≤ n) (l Bs Bn b off len cap z : Nat) (hz : 1 ≤ z) (hzb : z ≤ 1000000000) (hlen : len ≤ 1000000000) (hcap : len ≤ cap) (J Jx : List (Ck z len) → World → Prop)
    (hJa : AbidesFrom base J)
    (hY : ∀ pre x W, J pre W → pre.length < cn z len → YieldAt Fence.wide (n - 1) Tryd.prog l (ckv b off z len x) W fun e W' =>
      (e = .returned (.bool true) ∧ J (pre ++ [x]) W' ∧ Kb Bs Bn W W') ∨ (e = .returned (.bool false) ∧ Jx (pre ++ [x]) W'))
    (W : World) (tb tn : TypeId) (hBs : W.heap[Bs]? = some (.cells #[.slice (some ⟨b, off, none⟩) len cap] tb)) (hBn : W.heap[Bn]? = some (.cells #[.int .i64 (z : Int)] tn)) (h0 : J [] W) :
    CallsIn Fence.wide n Tryd.prog 38 #[.func (.yield l) #[] #[], .pointer (some ⟨Bs, 0, none⟩), .pointer (some ⟨Bn, 0, none⟩)] W fun e W' => (∃ v, e = .returned v) ∧
      ((∃ ys : List (Ck z len), ys.map Subtype.val = List.range (cn z len) ∧ J ys W') ∨ (∃ pre, Jx pre W')) := by
  have HY := Lib.hid hY
  have HJA := Lib.hid hJa
  clear hJa
  have HBS := Lib.hid hBs
  have HBN := Lib.hid hBn
  clear hY hBs hBn
  refine callsIn_of_wp Tryd.func38 rfl trivial ?_ rfl
  simp only [Tryd.ntmps38, List.size_toArray, List.length_cons, List.length_nil, Nat.reduceAdd, Nat.reduceSub, Array.replicate_succ, Array.replicate_zero, List.push_toArray, List.append_toArray, List.nil_append, List.cons_append]
  gi_wp2
  gi_loopw [4] (fun i wr => ∃ (k m : Nat) (pre : List (Ck z len)), i = .int .i64 (m : Int) ∧ Hid (m = k * z) ∧ Hid (k ≤ cn z len) ∧ Hid (pre.map Subtype.val = List.range k) ∧ Hid (J pre wr) ∧ Hid (Kb Bs Bn W wr))
    (fun i _ => len + z - (intOf i).toNat)
  case atStart => exact ⟨0, 0, [], rfl, Lib.hid (by omega), Lib.hid (Nat.zero_le _), Lib.hid rfl, Lib.hid h0, Lib.hid (fun _ _ => rfl)⟩
  case round =>
    obtain ⟨k, m, pre, rfl, hm, hk, hpre, hJ, hK⟩ := hrel
    have c1 := row_cell (k := 0) (v := .slice (some ⟨b, off, none⟩) len cap) ((hK.out Bs (.inl rfl)).trans HBS.out) rfl
    have c2 := row_cell (k := 0) (v := .int .i64 (z : Int)) ((hK.out Bn (.inr rfl)).trans HBN.out) rfl
    by_cases hlt : m < len
    · have hml : (m : Int) ≤ (len : Int) := by omega
      have hmc : (m : Int) ≤ (cap : Int) := by omega
      have hlc : (len : Int) ≤ (cap : Int) := by omega
      gi_wp2
      gi_region
      obtain ⟨e, he, he1, he2, he3⟩ : ∃ e : Nat, (if len - m < z then ((len - m : Nat) : Int) else (z : Int)) = (e : Int) ∧ Hid (e = ce z len k) ∧ Hid (1 ≤ e) ∧ m + e ≤ len := by
        refine ⟨min z (len - m), ?_, Lib.hid (by unfold ce; rw [← hm.out]), Lib.hid (by omega), by omega⟩
        split <;> omega
      simp only [he]
      clear he
      have hkn : k < cn z len := (cn_lt hz).2 (by rw [← hm.out]; exact hlt)
      have hJ' := HJA.out pre wr wr.drew none hJ.out ⟨rfl, rfl, rfl, Nat.le_refl _, fun _ _ _ => rfl⟩ (fun r e => by cases e)
      have hpl : pre.length < cn z len := by
        have := congrArg List.length hpre.out
        rw [List.length_map, List.length_range] at this
        omega
      obtain ⟨fn, tmps, assign, body, hy, hR⟩ := HY.out pre ⟨k, hkn⟩ wr.drew hJ' hpl
      unfold ckv at hy
      dsimp only at hy
      rw [← hm.out, ← he1.out] at hy
      have HR := Lib.hid hR
      clear hR hJ' hpl
      have g1 : (m : Int) ≤ (m : Int) + (e : Int) := by omega
      have g2 : (m : Int) + (e : Int) ≤ (cap : Int) := by omega
      have g3 : m + e - m = e := by omega
      obtain ⟨g4, g5⟩ := wrap_nn m e (by omega)
      have g6 : ¬ (m + e = m) := by have := he2.out; omega
      gi_wp2
      refine HR.out.mono ?_
      rintro e9 W3 (⟨rfl, hJ3, hk3⟩ | ⟨rfl, hJx3⟩)
      · have hK3 : Kb Bs Bn W W3 := hK.out.trans (Kb.trans (fun _ _ => rfl) hk3)
        have c3 := row_cell (k := 0) (v := .slice (some ⟨b, off, none⟩) len cap) ((hK3 Bs (.inl rfl)).trans HBS.out) rfl
        have c4 := row_cell (k := 0) (v := .int .i64 (z : Int)) ((hK3 Bn (.inr rfl)).trans HBN.out) rfl
        have HK3 := Lib.hid hK3
        have HJ3 := Lib.hid hJ3
        clear hK3 hJ3 hk3 hy c1 c2
        obtain ⟨g7, g8⟩ := wrap_nn m z (by omega)
        gi_wp2
        go_roundw
        case rel =>
          refine ⟨k + 1, m + z, pre ++ [⟨k, hkn⟩], by simp, Lib.hid ?_, Lib.hid hkn, Lib.hid ?_, HJ3, HK3⟩
          · rw [hm.out, Nat.add_mul, Nat.one_mul]
          · rw [List.map_append, hpre.out, List.range_succ]; rfl
        case measure => exact meas_nn hz hlt
      · gi_wp2
        refine bodyPost_ret (results_none rfl _ _ _) rfl ?_
        exact ⟨⟨_, rfl⟩, .inr ⟨_, hJx3⟩⟩
    · have hltz : ¬ (m : Int) < (len : Int) := by omega
      have hkn : k = cn z len := by
        have h1 := hk.out
        have h2 : ¬ k < cn z len := fun h => hlt (by rw [hm.out]; exact (cn_lt hz).1 h)
        omega
      gi_wp2
      go_end0
      exact ⟨⟨_, rfl⟩, .inl ⟨pre, hpre.out.trans (by rw [hkn]), hJ.out⟩⟩
/-- slices.Chunk -/
theorem chunk_any (A : Option Addr) (len cap z : Nat) (hz : 1 ≤ z) (w : World) :
    Calls Tryd.prog 26 #[.slice A len cap, .int .i64 (z : Int)] w fun e w' => e = .returned (.func (.func 38) #[] #[.pointer (some ⟨w.heap.size, 0, none⟩), .pointer (some ⟨w.heap.size + 1, 0, none⟩)]) ∧
      w' = (w.alloc (.cells #[.slice A len cap] 25)).alloc (.cells #[.int .i64 (z : Int)] 3) := by
  have h1 : ¬ (z : Int) < 1 := by omega
  go_enter Tryd.func26, Tryd.ntmps26
  go_wp2
  go_ret
  exact ⟨rfl, rfl⟩
theorem chunk_stops (n : Nat) (hn : 1 ≤ n) (Bs Bn b off len cap z : Nat) (hz : 1 ≤ z) (hzb : z ≤ 1000000000) (hlen : len ≤ 1000000000) (hcap : len ≤ cap) (w : World) (tb tn : TypeId) (hBs : w.heap[Bs]? = some (.cells #[.slice (some ⟨b, off, none⟩) len cap] tb)) (hBn : w.heap[Bn]? = some (.cells #[.int .i64 (z : Int)] tn)) :
    SeqStopsK Fence.wide n Tryd.prog 38 #[.pointer (some ⟨Bs, 0, none⟩), .pointer (some ⟨Bn, 0, none⟩)] (ckv b off z len) (Kb Bs Bn) (fun ys => ys.map Subtype.val = List.range (cn z len)) (fun _ => True) (cn z len) w := by
  intro l J Jx W hW hJ _ hY h0
  have h1 : W.heap[Bs]? = some (.cells #[.slice (some ⟨b, off, none⟩) len cap] tb) := (hW.block Bs (row_lt hBs)).trans hBs
  have h2 : W.heap[Bn]? = some (.cells #[.int .i64 (z : Int)] tn) := (hW.block Bn (row_lt hBn)).trans hBn
  refine (chunk1_in n W.heap.size hn l Bs Bn b off len cap z hz hzb hlen hcap J Jx hJ hY W tb tn h1 h2 h0).mono ?_
  rintro e W' ⟨he, ⟨ys, hys, hj⟩ | ⟨pre, hj⟩⟩
  · exact ⟨he, .inl ⟨ys, hys, hj⟩⟩
  · exact ⟨he, .inr ⟨pre, trivial, hj⟩⟩
end Go.Proofs.YtabjihchcmjdmaaDoor
/-
  The parts of a packet: the plain law. By an AI agent.
-/
namespace Go.Proofs.YtabjihchcmjdmaaDoor
open Go.RowKit

theorem ce_le (z n k : Nat) : ce z n k ≤ n := by unfold ce; omega
/-- the k-th part's bytes -/
def ckb (z : Nat) (l : List UInt8) (k : Nat) : List UInt8 := (l.take (k * z + ce z l.length k)).drop (k * z)
theorem ckb_len {z k : Nat} {l : List UInt8} (h : k * z ≤ l.length) : (ckb z l k).length = ce z l.length k := by
  unfold ckb ce
  rw [List.length_drop, List.length_take]
  omega
/-- a part on the way -/
def prt (p : Pk) (z : Nat) (a : Int) (k : Nat) : Pk := { p with off := a, mf := true, b := ckb z p.b k }
/-- what has come: where the next one begins; the parts -/
def sacc (p : Pk) (z : Nat) (pre : List Nat) : Int × List Pk := pre.foldl (fun s k => (s.1 + (ce z p.b.length k : Int), s.2 ++ [prt p z s.1 k])) (p.off, [])
theorem sacc_snoc (p : Pk) (z : Nat) (pre : List Nat) (k : Nat) : sacc p z (pre ++ [k]) = ((sacc p z pre).1 + (ce z p.b.length k : Int), (sacc p z pre).2 ++ [prt p z (sacc p z pre).1 k]) := by
  unfold sacc; rw [List.foldl_append]; rfl
theorem sacc_bd (p : Pk) (z : Nat) : ∀ (n : Nat) (pre : List Nat), pre.length = n → p.off ≤ (sacc p z pre).1 ∧ (sacc p z pre).1 ≤ p.off + (n * p.b.length : Nat) ∧ (sacc p z pre).2.length = n
  | 0, pre, h => by
    obtain rfl := List.length_eq_zero_iff.1 h
    simp [sacc]
  | n + 1, pre, h => by
    obtain ⟨pr, k, rfl⟩ : ∃ pr k, pre = pr ++ [k] := ⟨pre.dropLast, pre.getLast (by intro e; rw [e] at h; simp at h), (List.dropLast_concat_getLast _).symm⟩
    have hn : pr.length = n := by simpa using h
    obtain ⟨h1, h2, h3⟩ := sacc_bd p z n pr hn
    rw [sacc_snoc]
    have hc := ce_le z p.b.length k
    have he : (n + 1) * p.b.length = n * p.b.length + p.b.length := by rw [Nat.add_mul, Nat.one_mul]
    refine ⟨?_, ?_, ?_⟩
    · show p.off ≤ (sacc p z pr).1 + _; omega
    · show (sacc p z pr).1 + _ ≤ _; rw [he]; omega
    · show ((sacc p z pr).2 ++ _).length = _; simp [h3]
theorem sacc_range (p : Pk) (z : Nat) (hz : 1 ≤ z) : ∀ k, k ≤ cn z p.b.length → sacc p z (List.range k) = (p.off + (min (k * z) p.b.length : Nat), (List.range k).map fun i => prt p z (p.off + (i * z : Nat)) i)
  | 0, _ => by simp [sacc]
  | k + 1, h => by
    have ih := sacc_range p z hz k (by omega)
    have hk : k * z < p.b.length := (cn_lt hz).1 (by omega)
    rw [List.range_succ, sacc_snoc, ih]
    have hm : min (k * z) p.b.length = k * z := by omega
    refine Prod.ext ?_ ?_
    · show p.off + _ + _ = _
      rw [hm]
      unfold ce
      rw [Nat.add_mul, Nat.one_mul]
      omega
    · show _ ++ _ = _
      rw [List.map_append, hm]; rfl
/-- the last one says what the whole said -/
def lastMf (ps : List Pk) (b : Bool) : List Pk := ps.modify (ps.length - 1) (fun q => { q with mf := b })
/-- how large parts are, for an MTU -/
def pz (m : Int) : Nat := ((m - 20) / 8 * 8).toNat
theorem pz_wrap {m : Int} (h : 68 ≤ m) (h' : m < 10000) : wrap64 (wrap64 ((wrap64 (m - 20)).tdiv 8) * 8) = (pz m : Int) ∧ 48 ≤ pz m ∧ pz m ≤ 10000 := by
  have e1 : wrap64 (m - 20) = m - 20 := by unfold wrap64; omega
  rw [e1, Int.tdiv_eq_ediv_of_nonneg (by omega)]
  have e2 : wrap64 ((m - 20) / 8) = (m - 20) / 8 := by unfold wrap64; omega
  rw [e2]
  have e3 : wrap64 ((m - 20) / 8 * 8) = (m - 20) / 8 * 8 := by unfold wrap64; omega
  rw [e3]
  unfold pz
  omega
theorem cn_le {z n : Nat} (hz : 48 ≤ z) (hn : n ≤ 4000) : cn z n ≤ 84 := by
  rcases Nat.lt_or_ge 84 (cn z n) with h | h
  · have := (cn_lt (by omega)).1 h
    omega
  · exact h
def parts (p : Pk) (m : Int) : List Pk :=
  if 20 + (p.b.length : Int) ≤ m then [p] else lastMf ((List.range (cn (pz m) p.b.length)).map fun i => prt p (pz m) (p.off + (i * pz m : Nat)) i) p.mf
/-- what is wrong -/
def spe (p : Pk) (m : Int) : Option (List (List UInt8) × Nat) :=
  if m < 68 then some ([lay10], 1) else if p.right ≠ 0 then some ([lay10, lay5], p.right) else if 20 + (p.b.length : Int) ≤ m then none else if p.df = true then some ([lay10], 7) else none
/-- a packet's mark is written in its row -/
theorem flat10_mf (b : Bool) : ∀ (os : List (Pk × Option Addr × Nat)) (i : Nat), i < os.length → (os.flatMap ocl).set (i * 10 + 3) (.bool b) = (os.modify i (fun o => ({ o.1 with mf := b }, o.2))).flatMap ocl
  | [], i, h => absurd h (by simp)
  | o :: r, 0, _ => rfl
  | o :: r, i + 1, h => by
    rw [List.flatMap_cons, List.modify_succ_cons, List.flatMap_cons, ← flat10_mf b r i (by simpa using h), List.set_append_right _ _ (by rw [ocl_len]; omega), ocl_len]
    congr 2
    omega
theorem OP.mf {w : World} {B g n c : Nat} {os : List (Pk × Option Addr × Nat)} (h : OP w B (.slice (some ⟨g, 0, none⟩) n c) os) (b : Bool) (i : Nat) (hi : i < os.length) :
    OP (w.setCell ⟨g, i * 10 + 3, none⟩ (.bool b)) B (.slice (some ⟨g, 0, none⟩) n c) (os.modify i (fun o => ({ o.1 with mf := b }, o.2))) := by
  obtain ⟨A', c', e⟩ := h.shape
  injection e with _ e2 _
  subst e2
  have := (World.ownsRow.stored h (i * 10 + 3) (.bool b)).1
  unfold OP
  rw [List.length_modify, ← flat10_mf b os i hi]
  exact this
theorem modify_fst (b : Bool) : ∀ (os : List (Pk × Option Addr × Nat)) (i : Nat), (os.modify i (fun o => ({ o.1 with mf := b }, o.2))).map Prod.fst = (os.map Prod.fst).modify i (fun q => { q with mf := b })
  | [], i => by simp
  | o :: r, 0 => rfl
  | o :: r, i + 1 => by simp only [List.modify_succ_cons, List.map_cons]; rw [modify_fst b r i]
theorem OBS.mf {w : World} {B : Nat} {os : List (Pk × Option Addr × Nat)} (h : OBS w B os) (b : Bool) (i : Nat) : OBS w B (os.modify i (fun o => ({ o.1 with mf := b }, o.2))) := by
  have key : ∀ (os : List (Pk × Option Addr × Nat)) (i : Nat), (os.modify i (fun o => ({ o.1 with mf := b }, o.2))).map (fun o => (ov o, o.1.b)) = os.map (fun o => (ov o, o.1.b)) := by
    intro os
    induction os with
    | nil => intro i; simp
    | cons o r ih =>
      intro i
      cases i with
      | zero => rfl
      | succ i => simp only [List.modify_succ_cons, List.map_cons]; rw [ih i]
  refine ⟨fun o ho => ?_, ?_⟩
  · have h1 : (ov o, o.1.b) ∈ os.map (fun o => (ov o, o.1.b)) := by rw [← key os i]; exact List.mem_map_of_mem ho
    obtain ⟨o', ho', e⟩ := List.mem_map.1 h1
    have h2 := h.1 o' ho'
    rw [show ov o' = ov o from congrArg Prod.fst e, show o'.1.b = o.1.b from congrArg Prod.snd e] at h2
    exact h2
  · have h1 : (os.map (fun o => (ov o, o.1.b))).Pairwise (fun o o' => ∀ k, o.1.ownBlock = some k → o'.1.ownBlock ≠ some k) := List.pairwise_map.2 h.2
    rw [← key os i] at h1
    exact List.pairwise_map.1 h1
theorem RB.recap {w : World} {P : Nat → Prop} {A : Option Addr} {n c c' : Nat} {l : List UInt8} (h : RB w P (.slice A n c) l) (hc : n ≤ c') : RB w P (.slice A n c') l := by
  obtain ⟨h1, A', d, e, h3, h4⟩ := h
  injection e with e1 e2 e3
  subst e1 e2 e3
  exact ⟨h1, A, c', rfl, hc, h4⟩
/-- the k-th chunk, as it lies -/
theorem ckb_rb {w : World} {P : Nat → Prop} {b off n c : Nat} {l : List UInt8} (h : RB w P (.slice (some ⟨b, off, none⟩) n c) l) (z k : Nat) (hk : k * z ≤ l.length) :
    RB w P (.slice (some ⟨b, off + k * z, none⟩) (ckb z l k).length (ckb z l k).length) (ckb z l k) := by
  have h1 := h.slice (k * z) (k * z + ce z l.length k) (by omega) (by unfold ce; omega)
  rw [ckb_len hk]
  rw [Nat.add_sub_cancel_left] at h1
  exact h1.recap (Nat.le_refl _)
theorem ex_step {W W' : World} {row : Option Nat} (hg : W.grownBy W' row) : Ex (fun k => row = some k) W W' :=
  ⟨hg.os, hg.tape, hg.output, hg.size, fun k hk hs => hg.block k hk (fun e => hs e.symm)⟩
theorem ownsRow_isCells {w : World} {base : Nat} {e : TypeId} {size : Nat} {v : Value} {n : Nat} {xs : List Value} (h : w.ownsRow base e size v n xs) {k : Nat} (hk : v.ownBlock = some k) : ∃ cur, w.heap[k]? = some (.cells cur e) := by
  rcases h.2 with ⟨rfl, _⟩ | ⟨g, cap, cur, rfl, _, hg, _⟩
  · cases hk
  · obtain rfl : g = k := Option.some.inj hk
    exact ⟨cur, hg⟩
/-- between two rounds of Split's loop -/
def SI (p : Pk) (z : Nat) (w0 : World) (lb ab : Nat) (pre : List Nat) (W : World) : Prop :=
  ∃ (os : List (Pk × Option Addr × Nat)) (A : Option Addr) (c : Nat),
    W.heap[ab]? = some (.cells #[.int .i64 (sacc p z pre).1] 3) ∧ W.heap[lb]? = some (.cells #[.slice A os.length c] 33) ∧ os.map Prod.fst = (sacc p z pre).2 ∧
      OP W w0.heap.size (.slice A os.length c) os ∧ OBS W w0.heap.size os ∧ Ex (fun k => k = ab ∨ k = lb) w0 W
theorem SI.own {α : Type} (f : α → Nat) (p : Pk) (z : Nat) (w0 : World) (lb ab : Nat) : OwnFrom w0.heap.size (fun (pre : List α) W => SI p z w0 lb ab (pre.map f) W) := by
  rintro pre W W' row ⟨os, A, c, h1, h2, h3, h4, h5, h6⟩ hg hr
  have hx := ex_step hg
  have hc : ∀ k cs t, W.heap[k]? = some (.cells cs t) → row ≠ some k := fun k cs t hk e => by
    obtain ⟨_, o, ho, hn⟩ := hr k e
    rw [hk] at ho
    cases ho
    cases hn
  refine ⟨os, A, c, (hx.block ab (row_lt h1) (hc _ _ _ h1)).trans h1, (hx.block lb (row_lt h2) (hc _ _ _ h2)).trans h2, h3, h4.keep hx (fun k hk _ _ => ?_), h5.keep hx (fun o ho k hk _ _ => ?_), h6.grown hg (fun k e => .inr (hr k e).1)⟩
  · obtain ⟨cur, hcur⟩ := ownsRow_isCells h4 hk
    exact hc _ _ _ hcur
  · obtain ⟨cur, hcur⟩ := ownsRow_isCells (h5.1 o ho).2 hk
    exact hc _ _ _ hcur
end Go.Proofs.YtabjihchcmjdmaaDoor
/-
  The contract of frag.Split: the loop over slices.Chunk. By an AI agent.
-/
namespace Go.Proofs.YtabjihchcmjdmaaDoor
open Go.RowKit

attribute [local go_sem] Oper.semAt_some
theorem Tryd.info27 : (Tryd.prog.info? 27).map (fun i => (i.zero, i.size, i.bytes)) = some (some (.agg #[.int .u8 0, .int .u16 0, .bool false, .bool false, .int .i64 0, .int .u8 0, .int .u8 0, .int .u32 0, .int .u32 0, .slice none 0 0]), 10, 56) := by kernel_rfl
theorem wrap_q {q : Int} {n : Nat} (h : 0 ≤ q ∧ q ≤ 500000) (hn : n ≤ 4000) : wrap64 (q + (n : Int)) = q + (n : Int) ∧ IntKind.i64.wrap (q + (n : Int)) = q + (n : Int) := by
  refine ⟨?_, ?_⟩
  · unfold wrap64; omega
  · rw [IntKind.wrap_i64]; omega
theorem ko_of_ex {S : Nat → Prop} {W W' : World} (hx : Ex S W W') (hs : ∀ k, S k → ∃ cs t, W.heap[k]? = some (.cells cs t)) : KeepsOthers W W' :=
  ⟨hx.size, fun k o hk ho => by
    refine (hx.block k (row_lt hk) (fun h => ?_)).trans hk
    obtain ⟨cs, t, e⟩ := hs k h
    rw [hk] at e
    cases e
    cases ho⟩
set_option maxRecDepth 100000 in
set_option maxHeartbeats 4000000 in
theorem split_5 (P : Nat → Prop) (p : Pk) (A : Option Addr) (c : Nat) (m : Int) (w : World) (hr : RB w P (.slice A p.b.length c) p.b) (hl : p.b.length ≤ 4000) (h : 68 ≤ m) (h2 : p.right = 0) (h3 : m < 20 + (p.b.length : Int)) (h4 : p.df = false) :
    Calls Tryd.prog 15 #[pkv p (.slice A p.b.length c), .int .i64 m] w fun e w' => ∃ A' c' os, e = .returned (.tuple #[.slice A' os.length c', .nilIface]) ∧ os.map Prod.fst = parts p m ∧ OP w' w.heap.size (.slice A' os.length c') os ∧ OBS w' w.heap.size os ∧ Ex (fun _ => False) w w' := by
  have HR := Lib.hid hr
  have HL := Lib.hid hl
  have HRT0 := fun w => right_yes p A c w (by have := HL.out; omega) h2
  have HRT := Lib.hid HRT0
  have H3 := Lib.hid h3
  have H4 := Lib.hid h4
  have H2 := Lib.hid h2
  clear hr hl h3 h4 h2 HRT0
  have h' : ¬ m < 68 := by omega
  have HM := Lib.hid h
  clear h
  obtain ⟨xtos, xid, xdf, xmf, xoff, xttl, xpr, xsrc, xdst, xb⟩ := p
  simp only at HR HL HRT H3 H4
  obtain ⟨b0, o0, rfl⟩ : ∃ b off, A = some ⟨b, off, none⟩ := by
    have h1 := H3.out
    have h2 := HM.out
    obtain ⟨_, A', c', e, _, hcell⟩ := HR.out
    obtain ⟨b, off, e2, _⟩ := hcell 0 (by omega)
    injection e with e1 e3 e4
    exact ⟨b, off, e1.trans e2⟩
  show Calls Tryd.prog 15 #[.agg #[.int .u8 xtos, .int .u16 xid, .bool xdf, .bool xmf, .int .i64 xoff, .int .u8 xttl, .int .u8 xpr, .int .u32 xsrc, .int .u32 xdst, .slice (some ⟨b0, o0, none⟩) xb.length c], .int .i64 m] w _
  refine (callsIn_wide (n := 3)).1 (callsIn_of_wp_marks Tryd.func15 rfl trivial (wpIn_wide.2 ?_) rfl)
  simp only [Tryd.ntmps15, List.size_toArray, List.length_cons, List.length_nil, Nat.reduceAdd, Nat.reduceSub, Array.replicate_succ, Array.replicate_zero, List.push_toArray, List.append_toArray, List.nil_append, List.cons_append]
  go_upto_region 1 with fail
  have hx : Ex (fun _ => False) w (w.alloc (.cells #[.int .u8 xtos, .int .u16 xid, .bool xdf, .bool xmf, .int .i64 xoff, .int .u8 xttl, .int .u8 xpr, .int .u32 xsrc, .int .u32 xdst, .slice (some ⟨b0, o0, none⟩) xb.length c] 27)) := (Ex.refl _ w).alloc _
  have hb : (w.alloc (.cells #[.int .u8 xtos, .int .u16 xid, .bool xdf, .bool xmf, .int .i64 xoff, .int .u8 xttl, .int .u8 xpr, .int .u32 xsrc, .int .u32 xdst, .slice (some ⟨b0, o0, none⟩) xb.length c] 27)).heap[w.heap.size]? = some (.cells #[.int .u8 xtos, .int .u16 xid, .bool xdf, .bool xmf, .int .i64 xoff, .int .u8 xttl, .int .u8 xpr, .int .u32 xsrc, .int .u32 xdst, .slice (some ⟨b0, o0, none⟩) xb.length c] 27) := heap_alloc_new w _
  obtain ⟨pb, hpb⟩ : ∃ pb, pb = w.heap.size := ⟨_, rfl⟩
  have hb_pb : w.heap.size ≤ pb := by omega
  rw [← hpb] at hb
  try simp only [← hpb]
  generalize w.alloc (.cells #[.int .u8 xtos, .int .u16 xid, .bool xdf, .bool xmf, .int .i64 xoff, .int .u8 xttl, .int .u8 xpr, .int .u32 xsrc, .int .u32 xdst, .slice (some ⟨b0, o0, none⟩) xb.length c] 27) = w1 at hx hb ⊢
  clear hpb
  have HX_w1 := Lib.hid hx
  clear hx
  have B_pb := Lib.hid hb
  clear hb
  have cpb0 := row_cell (k := 0) (v := .int .u8 xtos) B_pb.out rfl
  have cpb1 := row_cell (k := 1) (v := .int .u16 xid) B_pb.out rfl
  have cpb2 := row_cell (k := 2) (v := .bool xdf) B_pb.out rfl
  have cpb3 := row_cell (k := 3) (v := .bool xmf) B_pb.out rfl
  have cpb4 := row_cell (k := 4) (v := .int .i64 xoff) B_pb.out rfl
  have cpb5 := row_cell (k := 5) (v := .int .u8 xttl) B_pb.out rfl
  have cpb6 := row_cell (k := 6) (v := .int .u8 xpr) B_pb.out rfl
  have cpb7 := row_cell (k := 7) (v := .int .u32 xsrc) B_pb.out rfl
  have cpb8 := row_cell (k := 8) (v := .int .u32 xdst) B_pb.out rfl
  have cpb9 := row_cell (k := 9) (v := .slice (some ⟨b0, o0, none⟩) xb.length c) B_pb.out rfl
  go_wp2_with fail
  refine (HRT.out w1).mono ?_
  rintro e w2 ⟨rfl, hx⟩
  clear cpb0 cpb1 cpb2 cpb3 cpb4 cpb5 cpb6 cpb7 cpb8 cpb9
  have HX_w2 := Lib.hid hx
  clear hx
  have h3' : decide (20 + (xb.length : Int) ≤ m) = false := decide_eq_false (by have h := H3.out; omega)
  have hdf : xdf = false := H4.out
  obtain ⟨hw1, hw2⟩ : wrap64 (20 + (xb.length : Int)) = 20 + (xb.length : Int) ∧ IntKind.i64.wrap (20 + (xb.length : Int)) = 20 + (xb.length : Int) := by
    have := HL.out
    refine ⟨?_, ?_⟩
    · unfold wrap64; omega
    · rw [IntKind.wrap_i64]; omega
  replace B_pb := Lib.hid ((HX_w2.out.block pb (row_lt B_pb.out) id).trans B_pb.out)
  have cpb2 := row_cell (k := 2) (v := .bool xdf) B_pb.out rfl
  have cpb4 := row_cell (k := 4) (v := .int .i64 xoff) B_pb.out rfl
  have cpb9 := row_cell (k := 9) (v := .slice (some ⟨b0, o0, none⟩) xb.length c) B_pb.out rfl
  go_upto_region 11 with fail
  clear h3' hdf hw1 hw2 cpb2 cpb4 cpb9
  have hx : Ex (fun _ => False) w2 (w2.alloc (.cells #[.slice none 0 0] 33)) := (Ex.refl _ w2).alloc _
  have hb : (w2.alloc (.cells #[.slice none 0 0] 33)).heap[w2.heap.size]? = some (.cells #[.slice none 0 0] 33) := heap_alloc_new w2 _
  obtain ⟨lb, hlb⟩ : ∃ lb, lb = w2.heap.size := ⟨_, rfl⟩
  have hb_lb : w2.heap.size ≤ lb := by omega
  rw [← hlb] at hb
  try simp only [← hlb]
  generalize w2.alloc (.cells #[.slice none 0 0] 33) = w3 at hx hb ⊢
  clear hlb
  have HX_w3 := Lib.hid hx
  clear hx
  have B_lb := Lib.hid hb
  clear hb
  have cpb4 := row_cell (k := 4) (v := .int .i64 xoff) ((HX_w3.out.block pb (row_lt B_pb.out) id).trans B_pb.out) rfl
  go_upto_region 12 with fail
  clear cpb4
  have hx : Ex (fun _ => False) w3 (w3.alloc (.cells #[.int .i64 xoff] 3)) := (Ex.refl _ w3).alloc _
  have hb : (w3.alloc (.cells #[.int .i64 xoff] 3)).heap[w3.heap.size]? = some (.cells #[.int .i64 xoff] 3) := heap_alloc_new w3 _
  obtain ⟨ab, hab⟩ : ∃ ab, ab = w3.heap.size := ⟨_, rfl⟩
  have hb_ab : w3.heap.size ≤ ab := by omega
  rw [← hab] at hb
  try simp only [← hab]
  generalize w3.alloc (.cells #[.int .i64 xoff] 3) = w4 at hx hb ⊢
  clear hab
  have HX_w4 := Lib.hid hx
  clear hx
  have B_ab := Lib.hid hb
  clear hb
  have cpb9 := row_cell (k := 9) (v := .slice (some ⟨b0, o0, none⟩) xb.length c) (((HX_w3.out.trans HX_w4.out).block pb (row_lt B_pb.out) id).trans B_pb.out) rfl
  obtain ⟨hz, hz48, hzb⟩ := pz_wrap HM.out (by have h1 := H3.out; have h2 := HL.out; omega)
  obtain ⟨z, hzz⟩ : ∃ z, pz m = z := ⟨_, rfl⟩
  rw [hzz] at hz hz48 hzb
  have HZZ := Lib.hid hzz
  have HZ48 := Lib.hid hz48
  have HZB := Lib.hid hzb
  clear hzz hz48 hzb
  go_wp2_with fail
  rw [hz]
  clear hz
  refine (chunk_any (some ⟨b0, o0, none⟩) xb.length c z (by have := HZ48.out; omega) w4).mono ?_
  rintro e w5 ⟨rfl, rfl⟩
  clear cpb9
  have hx : Ex (fun _ => False) w4 (w4.alloc (.cells #[.slice (some ⟨b0, o0, none⟩) xb.length c] 25)) := (Ex.refl _ w4).alloc _
  have hb : (w4.alloc (.cells #[.slice (some ⟨b0, o0, none⟩) xb.length c] 25)).heap[w4.heap.size]? = some (.cells #[.slice (some ⟨b0, o0, none⟩) xb.length c] 25) := heap_alloc_new w4 _
  have hs1 : (w4.alloc (.cells #[.slice (some ⟨b0, o0, none⟩) xb.length c] 25)).heap.size = w4.heap.size + 1 := by simp
  obtain ⟨sbx, hsbx⟩ : ∃ sbx, sbx = w4.heap.size := ⟨_, rfl⟩
  have hb_sbx : w4.heap.size ≤ sbx := by omega
  rw [← hsbx] at hb hs1 
  try simp only [← hsbx]
  generalize w4.alloc (.cells #[.slice (some ⟨b0, o0, none⟩) xb.length c] 25) = w5 at hx hb  hs1 ⊢
  try simp only [← hs1]
  clear hs1
  clear hsbx
  have HX_w5 := Lib.hid hx
  clear hx
  have B_sbx := Lib.hid hb
  clear hb
  have hx : Ex (fun _ => False) w5 (w5.alloc (.cells #[.int .i64 (z : Int)] 3)) := (Ex.refl _ w5).alloc _
  have hb : (w5.alloc (.cells #[.int .i64 (z : Int)] 3)).heap[w5.heap.size]? = some (.cells #[.int .i64 (z : Int)] 3) := heap_alloc_new w5 _
  obtain ⟨nbx, hnbx⟩ : ∃ nbx, nbx = w5.heap.size := ⟨_, rfl⟩
  have hb_nbx : w5.heap.size ≤ nbx := by omega
  rw [← hnbx] at hb
  try simp only [← hnbx]
  generalize w5.alloc (.cells #[.int .i64 (z : Int)] 3) = w6 at hx hb ⊢
  clear hnbx
  have HX_w6 := Lib.hid hx
  clear hx
  have B_nbx := Lib.hid hb
  clear hb
  go_wp2_with fail
  have hcb := chunk_stops 2 (by decide) sbx nbx b0 o0 xb.length c z (by have := HZ48.out; omega) (by have := HZB.out; omega) (by have := HL.out; omega) (by obtain ⟨_, _, _, e, h, _⟩ := HR.out; injection e with _ _ e3; rw [e3]; exact h) w6 _ _ ((HX_w6.out.block sbx (row_lt B_sbx.out) id).trans B_sbx.out) B_nbx.out
  have HB45 := Lib.hid (show ab < w4.heap.size ∧ lb < w4.heap.size by have h1 := row_lt B_ab.out; have h2 := row_lt B_lb.out; have h3 := HX_w4.out.size; omega)
  refine range_wide 9 (fun x => .slice (some ⟨b0, o0 + x.1 * z, none⟩) (ce z xb.length x.1) (ce z xb.length x.1)) rfl (enters_of Tryd.func38 (by kernel_rfl) rfl) hcb Kb.trans ?hkb (fun _ => rfl) (fun pre W => SI (⟨xtos, xid, xdf, xmf, xoff, xttl, xpr, xsrc, xdst, xb⟩ : Pk) z w6 lb ab (pre.map Subtype.val) W) (SI.own _ _ _ _ _ _) ?h0 ?assign ?body ?done
  case hkb =>
    intro W l o o' hl hW _ _ B hB
    refine World.putObj_heap_other (fun e => ?_)
    have h1 := row_lt B_sbx.out
    have h2 := row_lt B_nbx.out
    have h3 := HX_w6.out.size
    rcases hB with e2 | e2 <;> omega
  case h0 =>
    exact ⟨[], none, 0, (((HX_w5.out.trans HX_w6.out).block ab (row_lt B_ab.out) id).trans B_ab.out), ((((HX_w4.out.trans HX_w5.out).trans HX_w6.out).block lb (row_lt B_lb.out) id).trans B_lb.out), rfl, OP.nil _ _, OBS.nil _ _, Ex.refl _ _⟩
  case assign =>
    intro l x W K hK
    simp only [ckv, List.zip_toArray, List.zip_cons_cons, List.zip_nil_right, List.foldl_toArray, List.foldl_cons, List.foldl_nil, List.setIfInBounds_toArray, List.set_cons_succ, List.set_cons_zero] at hK ⊢
    gi_wp2
    exact hK
  case body =>
    intro l pre x wr hI hlen
    obtain ⟨os, Al, cl, hab, hlb, hfst, hop, hobs, hex⟩ := hI
    have hkz : x.1 * z < xb.length := (cn_lt (by have := HZ48.out; omega)).1 x.2
    have hr0 : RB wr P (.slice (some ⟨b0, o0, none⟩) xb.length c) xb := RB.keep HR.out (Ex.andThen (((((((HX_w1.out.trans HX_w2.out).trans HX_w3.out).trans HX_w4.out).trans HX_w5.out).trans HX_w6.out)).mono (T := fun k => k = ab ∨ k = lb) (fun _ _ h => h.elim)) hex (fun i hi e => e)) (fun k hk _ e => by
      have h1 := HX_w1.out.size; have h2 := HX_w2.out.size; have h3 := HX_w3.out.size
      rcases e with e | e <;> omega)
    have hrk := ckb_rb hr0 z x.1 (Nat.le_of_lt hkz)
    obtain ⟨l1, hl1⟩ : ∃ l, ckb z xb x.1 = l := ⟨_, rfl⟩
    have hce : ce z xb.length x.1 = l1.length := by rw [← hl1, ckb_len (Nat.le_of_lt hkz)]
    obtain ⟨u, hu⟩ : ∃ u, o0 + x.1 * z = u := ⟨_, rfl⟩
    rw [hl1, hu] at hrk
    obtain ⟨q, hq⟩ : ∃ q, (sacc (⟨xtos, xid, xdf, xmf, xoff, xttl, xpr, xsrc, xdst, xb⟩ : Pk) z (pre.map Subtype.val)).1 = q := ⟨_, rfl⟩
    rw [hq] at hab
    have hol : os.length = pre.length := by
      have h1 := (sacc_bd (⟨xtos, xid, xdf, xmf, xoff, xttl, xpr, xsrc, xdst, xb⟩ : Pk) z pre.length (pre.map Subtype.val) (by simp)).2.2
      rw [← hfst, List.length_map] at h1
      exact h1
    have hpl : pre.length ≤ 84 := by have := cn_le HZ48.out HL.out; omega
    have hll : l1.length ≤ 4000 := by rw [← hce]; exact Nat.le_trans (ce_le _ _ _) HL.out
    obtain ⟨hq0, hq1⟩ : 0 ≤ q ∧ q ≤ 500000 := by
      obtain ⟨h1, h2, _⟩ := sacc_bd (⟨xtos, xid, xdf, xmf, xoff, xttl, xpr, xsrc, xdst, xb⟩ : Pk) z pre.length (pre.map Subtype.val) (by simp)
      rw [hq] at h1 h2
      obtain ⟨r0, r1, r2, r3, r4⟩ := Pk.right_zero H2.out
      simp only at h1 h2 r0 r3
      have h3 : pre.length * xb.length ≤ 84 * 4000 := Nat.mul_le_mul hpl HL.out
      omega
    have hpbr : wr.heap[pb]? = some (.cells #[.int .u8 xtos, .int .u16 xid, .bool xdf, .bool xmf, .int .i64 xoff, .int .u8 xttl, .int .u8 xpr, .int .u32 xsrc, .int .u32 xdst, .slice (some ⟨b0, o0, none⟩) xb.length c] 27) := by
      have h0 := (((((HX_w3.out.trans HX_w4.out).trans HX_w5.out).trans HX_w6.out).block pb (row_lt B_pb.out) id).trans B_pb.out)
      refine (hex.block pb (row_lt h0) ?_).trans h0
      have h2 := HX_w2.out.size
      have h3 := HX_w3.out.size
      have hb2 := row_lt B_pb.out
      intro e
      rcases e with e | e <;> omega
    have HEX := Lib.hid hex
    have HABR := Lib.hid hab
    have HLBR := Lib.hid hlb
    have HFST := Lib.hid hfst
    have HQ := Lib.hid hq
    have HL1 := Lib.hid hl1
    have HCE := Lib.hid hce
    have HRK := Lib.hid hrk
    have HOP := Lib.hid hop
    have HOBS := Lib.hid hobs
    have HOL := Lib.hid (show os.length ≤ 84 by omega)
    have HQB := Lib.hid (show 0 ≤ q ∧ q ≤ 500000 from ⟨hq0, hq1⟩)
    have HLL := Lib.hid hll
    have HAB6 := Lib.hid (show ab < w6.heap.size ∧ lb < w6.heap.size by have h1 := row_lt B_ab.out; have h2 := row_lt B_lb.out; have h3 := HX_w4.out.size; have h4 := HX_w5.out.size; have h5 := HX_w6.out.size; omega)
    have NELA := Lib.hid (show lb ≠ ab by have h1 := row_lt B_lb.out; omega)
    have hnlb : some lb ≠ (Value.slice Al os.length cl).ownBlock := fun e => by
      have h1 := (hop.lt lb e.symm).1
      have h2 := HAB6.out.2
      omega
    have HNLB := Lib.hid hnlb
    clear hnlb
    have B_ab := Lib.hid hab
    have B_lb := Lib.hid hlb
    have B_pb := Lib.hid hpbr
    simp only [ckv, hce, hu, List.zip_toArray, List.zip_cons_cons, List.zip_nil_right, List.foldl_toArray, List.foldl_cons, List.foldl_nil, List.setIfInBounds_toArray, List.set_cons_succ, List.set_cons_zero]
    clear hex hfst hq hl1 hce hrk hop hobs hol hpl hll hq0 hq1 hab hlb hpbr hkz hr0 hu
    refine wpIn_block (wpIn_seq (region_round rfl (fun ⟨_, _, h⟩ => h) ?_))
    have cpb0 := row_cell (k := 0) (v := .int .u8 xtos) B_pb.out rfl
    have cpb1 := row_cell (k := 1) (v := .int .u16 xid) B_pb.out rfl
    have cpb2 := row_cell (k := 2) (v := .bool xdf) B_pb.out rfl
    have cpb3 := row_cell (k := 3) (v := .bool xmf) B_pb.out rfl
    have cpb4 := row_cell (k := 4) (v := .int .i64 xoff) B_pb.out rfl
    have cpb5 := row_cell (k := 5) (v := .int .u8 xttl) B_pb.out rfl
    have cpb6 := row_cell (k := 6) (v := .int .u8 xpr) B_pb.out rfl
    have cpb7 := row_cell (k := 7) (v := .int .u32 xsrc) B_pb.out rfl
    have cpb8 := row_cell (k := 8) (v := .int .u32 xdst) B_pb.out rfl
    have cpb9 := row_cell (k := 9) (v := .slice (some ⟨b0, o0, none⟩) xb.length c) B_pb.out rfl
    go_wp2_with fail
    clear cpb0 cpb1 cpb2 cpb3 cpb4 cpb5 cpb6 cpb7 cpb8 cpb9
    have hx : Ex (fun _ => False) wr (wr.alloc (.cells #[.int .u8 xtos, .int .u16 xid, .bool xdf, .bool xmf, .int .i64 xoff, .int .u8 xttl, .int .u8 xpr, .int .u32 xsrc, .int .u32 xdst, .slice (some ⟨b0, o0, none⟩) xb.length c] 27)) := (Ex.refl _ wr).alloc _
    have hb : (wr.alloc (.cells #[.int .u8 xtos, .int .u16 xid, .bool xdf, .bool xmf, .int .i64 xoff, .int .u8 xttl, .int .u8 xpr, .int .u32 xsrc, .int .u32 xdst, .slice (some ⟨b0, o0, none⟩) xb.length c] 27)).heap[wr.heap.size]? = some (.cells #[.int .u8 xtos, .int .u16 xid, .bool xdf, .bool xmf, .int .i64 xoff, .int .u8 xttl, .int .u8 xpr, .int .u32 xsrc, .int .u32 xdst, .slice (some ⟨b0, o0, none⟩) xb.length c] 27) := heap_alloc_new wr _
    obtain ⟨xp, hxp⟩ : ∃ xp, xp = wr.heap.size := ⟨_, rfl⟩
    have hb_xp : wr.heap.size ≤ xp := by omega
    rw [← hxp] at hb
    try simp only [← hxp]
    generalize wr.alloc (.cells #[.int .u8 xtos, .int .u16 xid, .bool xdf, .bool xmf, .int .i64 xoff, .int .u8 xttl, .int .u8 xpr, .int .u32 xsrc, .int .u32 xdst, .slice (some ⟨b0, o0, none⟩) xb.length c] 27) = wx at hx hb ⊢
    clear hxp
    have HX_wx := Lib.hid hx
    clear hx
    have B_xp := Lib.hid hb
    clear hb
    have habl := row_lt B_ab.out
    have hlbl := row_lt B_lb.out
    have hpbl := row_lt B_pb.out
    have ne_ab_xp : ab ≠ xp := by omega
    have ne_lb_xp : lb ≠ xp := by omega
    have ne_pb_xp : pb ≠ xp := by omega
    have HXPL := Lib.hid (row_lt (show wx.heap[xp]? = _ from B_xp.out))
    have car0 := row_cell (k := 0) (v := .int .i64 q) ((HX_wx.out.block ab (row_lt B_ab.out) id).trans B_ab.out) rfl
    have HX_wd := Lib.hid ((Ex.refl (fun _ => False) wx).drew)
    have hS0 : Ex (fun k => k = xp) wx wx.drew := (Ex.refl _ wx).drew
    refine wpIn_seq (region_round_held (S := fun W => Ex (fun k => k = xp) wx W) (by kernel_rfl) rfl (fun ⟨_, _, h⟩ => h) hS0 (fun _ => ?_))
    generalize wx.drew = wd at HX_wd hS0 ⊢
    have hS := hS0
    clear hS0
    refine wpAnyH_take (i := 0) (oi := { dst := some 47, op := Go.Op.load 3 (Go.Operand.tmp 8), type := 3, pos := "frag.go:48", after := #[], guard := none }) (v := ?v1) rfl (by kernel_rfl) (by kernel_rfl) (by kernel_rfl) (fun _ _ _ h => h) (Or.inl ⟨by rfl, ?hy1⟩) (by assumption) ?rest1
    case hy1 => (intro w hSw; (try dsimp only at hSw); have e0 := hSw.cell car0 ne_ab_xp; go_simp <;> with_reducible rfl)
    try simp only [Act.put, List.setIfInBounds_toArray, List.set_cons_zero, List.set_cons_succ]
    refine wpAnyH_take (i := 1) (oi := { dst := some 48, op := Go.Op.move (Go.Operand.tmp 9), type := 25, pos := "frag.go:48", after := #[], guard := none }) (v := ?v2) rfl (by kernel_rfl) (by kernel_rfl) (by kernel_rfl) (fun _ _ _ h => h) (Or.inl ⟨by rfl, ?hy2⟩) (by assumption) ?rest2
    case hy2 => (intro w hSw; (try dsimp only at hSw); go_simp <;> with_reducible rfl)
    try simp only [Act.put, List.setIfInBounds_toArray, List.set_cons_zero, List.set_cons_succ]
    refine wpAnyH_take (i := 3) (oi := { dst := some 50, op := Go.Op.fieldAddr 27 (Go.Operand.tmp 10) 4, type := 0, pos := "frag.go:48", after := #[{ on := 0, ground := Go.Ground.phase }, { on := 1, ground := Go.Ground.textOnly Go.Departure.lateStores }, { on := 2, ground := Go.Ground.textOnly Go.Departure.lateStoresUnsure }], guard := none }) (v := ?v3) rfl (by kernel_rfl) (by kernel_rfl) (by kernel_rfl) (fun _ _ _ h => h) (Or.inl ⟨by rfl, ?hy3⟩) (by assumption) ?rest3
    case hy3 => (intro w hSw; (try dsimp only at hSw); go_simp <;> with_reducible rfl)
    try simp only [Act.put, List.setIfInBounds_toArray, List.set_cons_zero, List.set_cons_succ]
    refine wpAnyH_ready (rs := [2]) (by kernel_rfl) (by simp) ?_
    refine AllReadyH.cons (o := { dst := some 49, op := Go.Op.call { callee := Go.Callee.value (Go.Operand.func 27), args := #[Go.Operand.tmp 48], argTypes := #[25] }, type := 25, pos := "frag.go:48", after := #[{ on := 1, ground := Go.Ground.data }], guard := none }) rfl (fun K hK => ?_) AllReadyH.nil
    go_simp
    refine (clone_any P (some ⟨b0, u, none⟩) l1.length l1.length l1 wd (RB.keep HRK.out (HX_wx.out.trans HX_wd.out) (fun _ _ _ => id)) (fun h => by cases h) (by have := HLL.out; omega)).mono ?_
    rintro e wk ⟨A3, c3, rfl, ho, hx⟩
    have HX_wk := Lib.hid hx
    clear hx
    have HO := Lib.hid ho
    clear ho
    have hS1 : Ex (fun k => k = xp) wx wk := hS.trans (HX_wk.out.mono (fun _ _ h => h.elim))
    refine hK.out _ _ hS1 (fun _ => ?_)
    refine wpAnyH_ready (rs := [4]) (by kernel_rfl) (by simp) ?_
    refine AllReadyH.cons (o := { dst := none, op := Go.Op.store 3 (Go.Operand.tmp 50) (Go.Operand.tmp 47), type := 0, pos := "frag.go:48", after := #[{ on := 3, ground := Go.Ground.data }, { on := 0, ground := Go.Ground.data }, { on := 2, ground := Go.Ground.chain }, { on := 0, ground := Go.Ground.phase }, { on := 1, ground := Go.Ground.textOnly Go.Departure.lateStores }, { on := 2, ground := Go.Ground.textOnly Go.Departure.lateStoresUnsure }], guard := none }) rfl (fun K hK => ?_) AllReadyH.nil
    have cxp4 := row_cell (k := 4) (v := .int .i64 xoff) (((HX_wd.out.trans HX_wk.out).block xp (row_lt B_xp.out) id).trans B_xp.out) rfl
    have fxp4 := row_frozen (((HX_wd.out.trans HX_wk.out).block xp (row_lt B_xp.out) id).trans B_xp.out) 4
    go_simp
    replace B_xp := Lib.hid (((HX_wd.out.trans HX_wk.out).block xp (row_lt B_xp.out) id).trans B_xp.out)
    have hb : (wk.setCell ⟨xp, 4, none⟩ (.int .i64 q)).heap[xp]? = some (.cells #[.int .u8 xtos, .int .u16 xid, .bool xdf, .bool xmf, .int .i64 q, .int .u8 xttl, .int .u8 xpr, .int .u32 xsrc, .int .u32 xdst, .slice (some ⟨b0, o0, none⟩) xb.length c] 27) := (row_set B_xp.out 4 (.int .i64 q))
    have hx : Ex (fun j => j = xp) wk (wk.setCell ⟨xp, 4, none⟩ (.int .i64 q)) := ((Ex.refl (fun j => j = xp) wk).setCell (p := ⟨xp, 4, none⟩) (.inl rfl) (.int .i64 q))
    clear cxp4 fxp4
    generalize (wk.setCell ⟨xp, 4, none⟩ (.int .i64 q)) = wo at hx hb ⊢
    clear B_xp
    have HX_wo := Lib.hid hx
    clear hx
    have B_xp := Lib.hid hb
    clear hb
    have hS2 := hS1.trans HX_wo.out
    refine hK.out _ _ hS2 (fun _ => ?_)
    refine wpAnyH_take (i := 5) (oi := { dst := some 51, op := Go.Op.fieldAddr 27 (Go.Operand.tmp 10) 3, type := 0, pos := "frag.go:48", after := #[{ on := 0, ground := Go.Ground.phase }, { on := 1, ground := Go.Ground.textOnly Go.Departure.lateStores }, { on := 2, ground := Go.Ground.textOnly Go.Departure.lateStoresUnsure }, { on := 3, ground := Go.Ground.phase }, { on := 4, ground := Go.Ground.phase }], guard := none }) (v := ?v4) rfl (by kernel_rfl) (by kernel_rfl) (by kernel_rfl) (fun _ _ _ h => h) (Or.inl ⟨by rfl, ?hy4⟩) (by assumption) ?rest4
    case hy4 => (intro w hSw; (try dsimp only at hSw); go_simp <;> with_reducible rfl)
    try simp only [Act.put, List.setIfInBounds_toArray, List.set_cons_zero, List.set_cons_succ]
    refine wpAnyH_ready (rs := [6]) (by kernel_rfl) (by simp) ?_
    refine AllReadyH.cons (o := { dst := none, op := Go.Op.store 4 (Go.Operand.tmp 51) (Go.Operand.const (Go.Value.bool true)), type := 0, pos := "frag.go:48", after := #[{ on := 5, ground := Go.Ground.data }, { on := 4, ground := Go.Ground.chain }, { on := 0, ground := Go.Ground.phase }, { on := 1, ground := Go.Ground.textOnly Go.Departure.lateStores }, { on := 2, ground := Go.Ground.textOnly Go.Departure.lateStoresUnsure }, { on := 3, ground := Go.Ground.phase }, { on := 4, ground := Go.Ground.phase }], guard := none }) rfl (fun K hK => ?_) AllReadyH.nil
    have cxp3 := row_cell (k := 3) (v := .bool xmf) B_xp.out rfl
    have fxp3 := row_frozen B_xp.out 3
    go_simp
    have hb : (wo.setCell ⟨xp, 3, none⟩ (.bool true)).heap[xp]? = some (.cells #[.int .u8 xtos, .int .u16 xid, .bool xdf, .bool true, .int .i64 q, .int .u8 xttl, .int .u8 xpr, .int .u32 xsrc, .int .u32 xdst, .slice (some ⟨b0, o0, none⟩) xb.length c] 27) := (row_set B_xp.out 3 (.bool true))
    have hx : Ex (fun j => j = xp) wo (wo.setCell ⟨xp, 3, none⟩ (.bool true)) := ((Ex.refl (fun j => j = xp) wo).setCell (p := ⟨xp, 3, none⟩) (.inl rfl) (.bool true))
    clear cxp3 fxp3
    generalize (wo.setCell ⟨xp, 3, none⟩ (.bool true)) = wm at hx hb ⊢
    clear B_xp
    have HX_wm := Lib.hid hx
    clear hx
    have B_xp := Lib.hid hb
    clear hb
    have hS3 := hS2.trans HX_wm.out
    refine hK.out _ _ hS3 (fun _ => ?_)
    refine wpAnyH_take (i := 7) (oi := { dst := some 52, op := Go.Op.fieldAddr 27 (Go.Operand.tmp 10) 9, type := 0, pos := "frag.go:48", after := #[{ on := 0, ground := Go.Ground.phase }, { on := 1, ground := Go.Ground.phase }, { on := 2, ground := Go.Ground.phase }, { on := 3, ground := Go.Ground.phase }, { on := 4, ground := Go.Ground.phase }, { on := 5, ground := Go.Ground.phase }, { on := 6, ground := Go.Ground.phase }], guard := none }) (v := ?v5) rfl (by kernel_rfl) (by kernel_rfl) (by kernel_rfl) (fun _ _ _ h => h) (Or.inl ⟨by rfl, ?hy5⟩) (by assumption) ?rest5
    case hy5 => (intro w hSw; (try dsimp only at hSw); go_simp <;> with_reducible rfl)
    try simp only [Act.put, List.setIfInBounds_toArray, List.set_cons_zero, List.set_cons_succ]
    refine wpAnyH_ready (rs := [8]) (by kernel_rfl) (by simp) ?_
    refine AllReadyH.cons (o := { dst := none, op := Go.Op.store 25 (Go.Operand.tmp 52) (Go.Operand.tmp 49), type := 0, pos := "frag.go:48", after := #[{ on := 7, ground := Go.Ground.data }, { on := 2, ground := Go.Ground.data }, { on := 6, ground := Go.Ground.chain }, { on := 0, ground := Go.Ground.phase }, { on := 1, ground := Go.Ground.phase }, { on := 2, ground := Go.Ground.phase }, { on := 3, ground := Go.Ground.phase }, { on := 4, ground := Go.Ground.phase }, { on := 5, ground := Go.Ground.phase }, { on := 6, ground := Go.Ground.phase }], guard := none }) rfl (fun K hK => ?_) AllReadyH.nil
    have cxp9 := row_cell (k := 9) (v := .slice (some ⟨b0, o0, none⟩) xb.length c) B_xp.out rfl
    have fxp9 := row_frozen B_xp.out 9
    go_simp
    have hb : (wm.setCell ⟨xp, 9, none⟩ (.slice A3 l1.length c3)).heap[xp]? = some (.cells #[.int .u8 xtos, .int .u16 xid, .bool xdf, .bool true, .int .i64 q, .int .u8 xttl, .int .u8 xpr, .int .u32 xsrc, .int .u32 xdst, .slice A3 l1.length c3] 27) := (row_set B_xp.out 9 (.slice A3 l1.length c3))
    have hx : Ex (fun j => j = xp) wm (wm.setCell ⟨xp, 9, none⟩ (.slice A3 l1.length c3)) := ((Ex.refl (fun j => j = xp) wm).setCell (p := ⟨xp, 9, none⟩) (.inl rfl) (.slice A3 l1.length c3))
    clear cxp9 fxp9
    generalize (wm.setCell ⟨xp, 9, none⟩ (.slice A3 l1.length c3)) = wB at hx hb ⊢
    clear B_xp
    have HX_wB := Lib.hid hx
    clear hx
    have B_xp := Lib.hid hb
    clear hb
    have hS4 := hS3.trans HX_wB.out
    refine hK.out _ _ hS4 (fun _ => ?_)
    refine wpAnyH_done (by kernel_rfl) ?_ _
    clear hS hS1 hS2 hS3 hS4 car0
    obtain ⟨hqw, hqw2⟩ := wrap_q HQB.out HLL.out
    have cab0 := row_cell (k := 0) (v := .int .i64 q) (((((((HX_wx.out.trans HX_wd.out).trans HX_wk.out).andThen HX_wo.out (fun i hi e => by have := hb_xp; omega)).andThen HX_wm.out (fun i hi e => by have := hb_xp; omega)).andThen HX_wB.out (fun i hi e => by have := hb_xp; omega)).block ab (row_lt B_ab.out) id).trans B_ab.out) rfl
    have fab0 := row_frozen (((((((HX_wx.out.trans HX_wd.out).trans HX_wk.out).andThen HX_wo.out (fun i hi e => by have := hb_xp; omega)).andThen HX_wm.out (fun i hi e => by have := hb_xp; omega)).andThen HX_wB.out (fun i hi e => by have := hb_xp; omega)).block ab (row_lt B_ab.out) id).trans B_ab.out) 0
    refine wpIn_seq (region_round rfl (fun ⟨_, _, h⟩ => h) ?_)
    go_wp2_with fail
    clear hqw hqw2
    replace B_ab := Lib.hid (((((((HX_wx.out.trans HX_wd.out).trans HX_wk.out).andThen HX_wo.out (fun i hi e => by have := hb_xp; omega)).andThen HX_wm.out (fun i hi e => by have := hb_xp; omega)).andThen HX_wB.out (fun i hi e => by have := hb_xp; omega)).block ab (row_lt B_ab.out) id).trans B_ab.out)
    have hb : (wB.setCell ⟨ab, 0, none⟩ (.int .i64 (q + (l1.length : Int)))).heap[ab]? = some (.cells #[.int .i64 (q + (l1.length : Int))] 3) := (row_set B_ab.out 0 (.int .i64 (q + (l1.length : Int))))
    have hx : Ex (fun j => j = ab) wB (wB.setCell ⟨ab, 0, none⟩ (.int .i64 (q + (l1.length : Int)))) := ((Ex.refl (fun j => j = ab) wB).setCell (p := ⟨ab, 0, none⟩) (.inl rfl) (.int .i64 (q + (l1.length : Int))))
    clear cab0 fab0
    generalize (wB.setCell ⟨ab, 0, none⟩ (.int .i64 (q + (l1.length : Int)))) = wa at hx hb ⊢
    clear B_ab
    have HX_wa := Lib.hid hx
    clear hx
    have B_ab := Lib.hid hb
    clear hb
    have ne_lb_ab : lb ≠ ab := NELA.out
    replace B_lb := Lib.hid ((HX_wa.out.block lb (row_lt (((((((HX_wx.out.trans HX_wd.out).trans HX_wk.out).andThen HX_wo.out (fun i hi e => by have := hb_xp; omega)).andThen HX_wm.out (fun i hi e => by have := hb_xp; omega)).andThen HX_wB.out (fun i hi e => by have := hb_xp; omega)).block lb (row_lt B_lb.out) id).trans B_lb.out)) ne_lb_ab).trans (((((((HX_wx.out.trans HX_wd.out).trans HX_wk.out).andThen HX_wo.out (fun i hi e => by have := hb_xp; omega)).andThen HX_wm.out (fun i hi e => by have := hb_xp; omega)).andThen HX_wB.out (fun i hi e => by have := hb_xp; omega)).block lb (row_lt B_lb.out) id).trans B_lb.out))
    have clb0 := row_cell (k := 0) (v := .slice Al os.length cl) B_lb.out rfl
    have flb0 := row_frozen B_lb.out 0
    replace B_xp := Lib.hid ((HX_wa.out.block xp (row_lt B_xp.out) ne_ab_xp.symm).trans B_xp.out)
    have cxp0 := row_cell (k := 0) (v := .int .u8 xtos) B_xp.out rfl
    have cxp1 := row_cell (k := 1) (v := .int .u16 xid) B_xp.out rfl
    have cxp2 := row_cell (k := 2) (v := .bool xdf) B_xp.out rfl
    have cxp3 := row_cell (k := 3) (v := .bool true) B_xp.out rfl
    have cxp4 := row_cell (k := 4) (v := .int .i64 q) B_xp.out rfl
    have cxp5 := row_cell (k := 5) (v := .int .u8 xttl) B_xp.out rfl
    have cxp6 := row_cell (k := 6) (v := .int .u8 xpr) B_xp.out rfl
    have cxp7 := row_cell (k := 7) (v := .int .u32 xsrc) B_xp.out rfl
    have cxp8 := row_cell (k := 8) (v := .int .u32 xdst) B_xp.out rfl
    have cxp9 := row_cell (k := 9) (v := .slice A3 l1.length c3) B_xp.out rfl
    obtain ⟨i1, hj, hy0, hy1, hy2⟩ := info_parts Tryd.info27
    have hrB : Ex (fun _ => False) wr wB := (((((HX_wx.out.trans HX_wd.out).trans HX_wk.out).andThen HX_wo.out (fun i hi e => by have := hb_xp; omega)).andThen HX_wm.out (fun i hi e => by have := hb_xp; omega)).andThen HX_wB.out (fun i hi e => by have := hb_xp; omega))
    have hra : Ex (fun k => k = ab) wr wa := (hrB.mono (fun _ _ h => h.elim)).trans HX_wa.out
    have hopa : OP wa w6.heap.size (.slice Al os.length cl) os := HOP.out.keep hra (fun k _ _ h e => by have := HAB6.out.1; omega)
    have hbase : w6.heap.size ≤ wa.heap.size := Nat.le_trans HEX.out.size hra.size
    have HOPA := Lib.hid hopa
    have HBASE := Lib.hid hbase
    have HRA := Lib.hid hra
    have HRB := Lib.hid hrB
    have hlc : ∀ k u, (ocl ((⟨xtos, xid, xdf, true, q, xttl, xpr, xsrc, xdst, l1⟩ : Pk), A3, c3))[k]? = some u → (wa.alloc (.cells #[.int .u8 xtos, .int .u16 xid, .bool xdf, .bool true, .int .i64 q, .int .u8 xttl, .int .u8 xpr, .int .u32 xsrc, .int .u32 xdst, .slice A3 l1.length c3] 27)).cell? ⟨wa.heap.size, k, none⟩ = some u := fun k u h => row_cell (heap_alloc_new wa _) (by simpa [ocl, pcl] using h)
    have HLC := Lib.hid hlc
    have hol2 := HOL.out
    clear hlc hopa hbase hra hrB
    have hlbx : (wa.alloc (.cells #[.int .u8 xtos, .int .u16 xid, .bool xdf, .bool true, .int .i64 q, .int .u8 xttl, .int .u8 xpr, .int .u32 xsrc, .int .u32 xdst, .slice A3 l1.length c3] 27)).heap[lb]? = some (.cells #[.slice Al os.length cl] 33) := (((Ex.refl (fun _ => False) wa).alloc _).block lb (row_lt B_lb.out) id).trans B_lb.out
    have HLBX := Lib.hid hlbx
    clear hlbx
    refine region_round rfl (fun ⟨_, _, h⟩ => h) ?_
    go_wp2_with (at_builtin; refine wpList_append_op i1 33 _ 56 Tryd.underlying33 hj hy0 rfl hy1 hy2 (by decide) rfl (.tmp 57) (.tmp 59) rfl w6.heap.size (.slice Al os.length cl) os rfl ((⟨xtos, xid, xdf, true, q, xttl, xpr, xsrc, xdst, l1⟩ : Pk), A3, c3) wa.heap.size 1 1 rfl rfl (HOPA.out.keep (S := fun _ => False) ((Ex.refl _ wa).alloc _) (fun _ _ _ _ => id)) HLC.out (by omega) (by have := HBASE.out; simp; omega) ?_; intro A7 c7 w7 ho7 hg7 hn7; have hlb7 := (hg7.block lb (row_lt HLBX.out) HNLB.out).trans HLBX.out; have clb7 := row_cell (k := 0) (v := .slice Al os.length cl) hlb7 rfl; have flb7 := row_frozen hlb7 0)
    have hb8 : (w7.setCell ⟨lb, 0, none⟩ (.slice A7 (os.length + 1) c7)).heap[lb]? = some (.cells #[.slice A7 (os.length + 1) c7] 33) := row_set hlb7 0 _
    have hx8 : Ex (fun k => k = lb) w7 (w7.setCell ⟨lb, 0, none⟩ (.slice A7 (os.length + 1) c7)) := Ex.setCell (S := fun k => k = lb) (Ex.refl _ w7) (p := ⟨lb, 0, none⟩) (.inl rfl) _
    generalize w7.setCell ⟨lb, 0, none⟩ (.slice A7 (os.length + 1) c7) = w8 at hb8 hx8 ⊢
    have hxa : Ex (fun _ => False) wa (wa.alloc (.cells #[.int .u8 xtos, .int .u16 xid, .bool xdf, .bool true, .int .i64 q, .int .u8 xttl, .int .u8 xpr, .int .u32 xsrc, .int .u32 xdst, .slice A3 l1.length c3] 27)) := (Ex.refl _ wa).alloc _
    have hxb : Ex (fun k => (Value.slice Al os.length cl).ownBlock = some k) (wa.alloc (.cells #[.int .u8 xtos, .int .u16 xid, .bool xdf, .bool true, .int .i64 q, .int .u8 xttl, .int .u8 xpr, .int .u32 xsrc, .int .u32 xdst, .slice A3 l1.length c3] 27)) w7 := (Ex.refl _ _).grown hg7 (fun k hk => .inl hk)
    generalize wa.alloc (.cells #[.int .u8 xtos, .int .u16 xid, .bool xdf, .bool true, .int .i64 q, .int .u8 xttl, .int .u8 xpr, .int .u32 xsrc, .int .u32 xdst, .slice A3 l1.length c3] 27) = waa at hxa hxb
    clear hj hy0 hy1 hy2 hg7 hlb7 clb7 flb7 clb0 flb0 cxp0 cxp1 cxp2 cxp3 cxp4 cxp5 cxp6 cxp7 cxp8 cxp9
    have hlop := HOP.out.lt
    have hab6 := HAB6.out
    have hsab : Ex (fun k => k = ab ∨ k = lb ∨ (Value.slice Al os.length cl).ownBlock = some k) wr w8 := ((((HRA.out.mono (fun _ _ h => .inl h)).trans (hxa.mono (fun _ _ h => h.elim))).trans (hxb.mono (fun _ _ h => .inr (.inr h)))).trans (hx8.mono (fun _ _ h => .inr (.inl h))))
    have hskb : Ex (fun k => k = xp ∨ k = ab ∨ k = lb ∨ (Value.slice Al os.length cl).ownBlock = some k) wk w8 :=
      ((((((HX_wo.out.mono (fun _ _ h => .inl h)).trans (HX_wm.out.mono (fun _ _ h => .inl h))).trans (HX_wB.out.mono (fun _ _ h => .inl h))).trans (HX_wa.out.mono (fun _ _ h => .inr (.inl h)))).trans (hxa.mono (fun _ _ h => h.elim))).trans (hxb.mono (fun _ _ h => .inr (.inr (.inr h))))).trans (hx8.mono (fun _ _ h => .inr (.inr (.inl h))))
    have es : sacc (⟨xtos, xid, xdf, xmf, xoff, xttl, xpr, xsrc, xdst, xb⟩ : Pk) z ((pre ++ [x]).map Subtype.val) = (q + (l1.length : Int), os.map Prod.fst ++ [(⟨xtos, xid, xdf, true, q, xttl, xpr, xsrc, xdst, l1⟩ : Pk)]) := by
      rw [List.map_append]
      show sacc (⟨xtos, xid, xdf, xmf, xoff, xttl, xpr, xsrc, xdst, xb⟩ : Pk) z (pre.map Subtype.val ++ [x.1]) = _
      rw [sacc_snoc, ← HFST.out, HQ.out]
      refine Prod.ext ?_ ?_
      · show q + (ce z xb.length x.1 : Int) = _
        rw [HCE.out]
      · show _ ++ [(⟨xtos, xid, xdf, true, q, xttl, xpr, xsrc, xdst, ckb z xb x.1⟩ : Pk)] = _
        rw [HL1.out]
    have hra6 := HEX.out.size
    have hal : ab < wa.heap.size := row_lt B_ab.out
    have hab8 : w8.heap[ab]? = some (.cells #[.int .i64 (q + (l1.length : Int))] 3) :=
      (hx8.block ab (by have h1 := hxa.size; have h2 := hxb.size; omega) (fun e => NELA.out e.symm)).trans ((hxb.block ab (by have h1 := hxa.size; omega) (fun e => by have := (hlop ab e).1; omega)).trans ((hxa.block ab hal id).trans B_ab.out))
    have hl7 := ho7.lt
    refine ⟨ko_of_ex hsab ?_, fun B hB => hsab.block B ?_ ?_, ⟨os ++ [((⟨xtos, xid, xdf, true, q, xttl, xpr, xsrc, xdst, l1⟩ : Pk), A3, c3)], A7, c7, ?_, ?_, ?_, ?_, ?_, ?_⟩⟩
    · rintro k (rfl | rfl | h)
      · exact ⟨_, _, HABR.out⟩
      · exact ⟨_, _, HLBR.out⟩
      · obtain ⟨cur, hcur⟩ := ownsRow_isCells HOP.out h
        exact ⟨_, _, hcur⟩
    · have h1 := row_lt B_sbx.out
      have h2 := row_lt B_nbx.out
      have h3 := HX_w6.out.size
      rcases hB with e | e <;> omega
    · have h1 := row_lt B_sbx.out
      have h2 := row_lt B_nbx.out
      have h3 := HX_w6.out.size
      have h4 := HB45.out
      have h5 := HX_w5.out.size
      rintro (e | e | e)
      · rcases hB with e2 | e2 <;> omega
      · rcases hB with e2 | e2 <;> omega
      · have h6 := (hlop B e).1
        rcases hB with e2 | e2 <;> omega
    · rw [es]
      exact hab8
    · rw [List.length_append]
      exact hb8
    · rw [es, List.map_append]
      rfl
    · rw [List.length_append]
      exact ho7.keep hx8 (fun k hk _ _ e => by have := (hl7 k hk).1; omega)
    · refine OBS.snoc (C := wd.heap.size) (HOBS.out.keep hsab ?_) (HO.out.keep hskb ?_) ?_ ?_
      · intro o ho k hk _ hk6 h
        rcases h with e | e | e
        · omega
        · omega
        · obtain ⟨c1, hc1⟩ := ownsRow_isCells (HOBS.out.1 o ho).2 hk
          obtain ⟨c2, hc2⟩ := ownsRow_isCells HOP.out e
          rw [hc1] at hc2
          injection hc2 with hc2
          injection hc2 with _ hc3
          exact absurd hc3 (by decide)
      · intro k _ _ hk6 h
        have h1 := HX_wx.out.size
        have h2 := HX_wd.out.size
        have h3 := HXPL.out
        have h4 := row_lt HABR.out
        have h5 := row_lt HLBR.out
        rcases h with e | e | e | e
        · omega
        · omega
        · omega
        · have := (hlop k e).2
          omega
      · have h1 := HX_wx.out.size
        have h2 := HX_wd.out.size
        omega
      · intro o' ho' k hk
        have h1 := HX_wx.out.size
        have h2 := HX_wd.out.size
        have h3 := ((HOBS.out.1 o' ho').lt k hk).2
        omega
    · exact HEX.out.andThen hsab (fun i hi e => by
        rcases e with e | e | e
        · exact .inl e
        · exact .inr e
        · have := (hlop i e).1
          omega)
  case done =>
    intro D xs wd hD hS hI hK
    rw [hS] at hI
    obtain ⟨os, Al, cl, _, hlb, hfst, hop, hobs, hex⟩ := hI
    rw [sacc_range (⟨xtos, xid, xdf, xmf, xoff, xttl, xpr, xsrc, xdst, xb⟩ : Pk) z (by have := HZ48.out; omega) _ (Nat.le_refl _)] at hfst
    have hn1 : 0 < cn z xb.length := (cn_lt (by have := HZ48.out; omega)).2 (by have h1 := HM.out; have h2 := H3.out; omega)
    have hol : os.length = cn z xb.length := by
      have := congrArg List.length hfst
      simpa using this
    obtain ⟨g, c9, hv, hnc, hgar⟩ := hop.get 0 (by omega)
    clear hgar
    injection hv with hv1 _ hv3
    subst hv1 hv3
    obtain ⟨n, hn⟩ : ∃ n, os.length = n := ⟨_, rfl⟩
    obtain ⟨j, hj⟩ : ∃ j, n = j + 1 := ⟨n - 1, by omega⟩
    have hpbd : wd.heap[pb]? = some (.cells #[.int .u8 xtos, .int .u16 xid, .bool xdf, .bool xmf, .int .i64 xoff, .int .u8 xttl, .int .u8 xpr, .int .u32 xsrc, .int .u32 xdst, .slice (some ⟨b0, o0, none⟩) xb.length c] 27) := by
      have h0 := (((((HX_w3.out.trans HX_w4.out).trans HX_w5.out).trans HX_w6.out).block pb (row_lt B_pb.out) id).trans B_pb.out)
      refine (hex.block pb (row_lt h0) ?_).trans h0
      have h2 := HX_w2.out.size
      have h3 := HX_w3.out.size
      have hb2 := row_lt B_pb.out
      intro e
      rcases e with e | e <;> omega
    have cpb3 := row_cell (k := 3) (v := .bool xmf) hpbd rfl
    have clb0 := row_cell (k := 0) (v := .slice (some ⟨g, 0, none⟩) os.length cl) hlb rfl
    obtain ⟨bq, cg⟩ : ∃ bq, wd.cell? ⟨g, j * 10 + 3, none⟩ = some (.bool bq) := by
      refine ⟨(os[j]'(by omega)).1.mf, ?_⟩
      obtain ⟨g', c', e1, _, h4⟩ := hop.get j (by omega)
      injection e1 with e1 _ _
      injection e1 with e1
      injection e1 with e1
      subst e1
      exact h4 3 _ rfl
    have fg : wd.frozen? ⟨g, j * 10 + 3, none⟩ = false := World.ownsRow.frozenAt hop _
    have hwn : wrap64 ((n : Int) - 1) = (j : Int) := by have := HL.out; have h5 := cn_le HZ48.out this; unfold wrap64; omega
    have hjn : (j : Int) < (n : Int) := by omega
    rw [hn] at clb0
    have HOP := Lib.hid hop
    have HOBS := Lib.hid hobs
    have HFST := Lib.hid hfst
    have HN := Lib.hid hn
    have HJ := Lib.hid hj
    have HOL := Lib.hid hol
    have HN1 := Lib.hid hn1
    have HEX := Lib.hid hex
    have HLBD := Lib.hid hlb
    have HK := Lib.hid hK
    have HD := Lib.hid hD
    clear hop hobs hfst hol hn1 hex hlb hK hD hj hn hnc hS hpbd
    go_wp2_with fail
    have hgl := (HOP.out.lt g rfl)
    have hgD : g ≠ D := by
      obtain ⟨cur, hcur⟩ := ownsRow_isCells HOP.out (k := g) rfl
      intro e
      have h := HK.out
      rw [← e, hcur] at h
      cases h
    have hx1 : Ex (fun k => k = g) wd (wd.setCell ⟨g, j * 10 + 3, none⟩ (.bool xmf)) := Ex.setCell (S := fun k => k = g) (Ex.refl _ wd) (p := ⟨g, j * 10 + 3, none⟩) (.inl rfl) _
    have hop1 := OP.mf HOP.out xmf j (by have h1 := HN.out; have h2 := HJ.out; omega)
    have hK2 := (hx1.block D (row_lt HK.out) (fun e => hgD e.symm)).trans HK.out
    generalize wd.setCell ⟨g, j * 10 + 3, none⟩ (.bool xmf) = we at hx1 hop1 hK2 ⊢
    have hx2 : Ex (fun k => k = D) we (we.putObj D (.deferred none)) := (ex_step (grownBy_putObj' we D (.deferred none))).mono (fun k _ e => (Option.some.inj e).symm)
    refine ⟨by simp, .inl ⟨_, _, rfl, run_takeDeferred hK2, ?_⟩⟩
    generalize we.putObj D (.deferred none) = wf at hx2 ⊢
    have hol1 : (os.modify j (fun o => ({ o.1 with mf := xmf }, o.2))).length = n := by rw [List.length_modify]; exact HN.out
    refine ⟨_, results_tmp2 rfl _ _ _, some ⟨g, 0, none⟩, cl, os.modify j (fun o => ({ o.1 with mf := xmf }, o.2)), ?_, ?_, ?_, ?_, ?_⟩
    · rw [hol1]
      rfl
    · unfold parts
      rw [if_neg (show ¬ 20 + (xb.length : Int) ≤ m by have h := H3.out; omega), modify_fst, HFST.out, HZZ.out]
      unfold lastMf
      rw [List.length_map, List.length_range]
      have h1 := HOL.out
      have h2 := HN.out
      have h3 := HJ.out
      rw [show cn z xb.length - 1 = j by omega]
    · have h0 := (((((HX_w1.out.trans HX_w2.out).trans HX_w3.out).trans HX_w4.out).trans HX_w5.out).trans HX_w6.out).size
      rw [HN.out] at hop1
      rw [hol1]
      exact (hop1.keep hx2 (fun k hk _ _ e => hgD ((Option.some.inj hk).trans e))).mono h0
    · have h0 := (((((HX_w1.out.trans HX_w2.out).trans HX_w3.out).trans HX_w4.out).trans HX_w5.out).trans HX_w6.out).size
      refine OBS.mf (OBS.mono ((HOBS.out.keep hx1 ?_).keep hx2 ?_) h0) xmf j
      · intro o ho k hk _ _ e
        obtain ⟨c1, hc1⟩ := ownsRow_isCells (HOBS.out.1 o ho).2 hk
        obtain ⟨c2, hc2⟩ := ownsRow_isCells HOP.out (k := g) rfl
        rw [e, hc2] at hc1
        injection hc1 with hc1
        injection hc1 with _ hc3
        exact absurd hc3 (by decide)
      · intro o ho k hk _ _ e
        obtain ⟨c1, hc1⟩ := ownsRow_isCells (HOBS.out.1 o ho).2 hk
        have h := HK.out
        rw [← e, hc1] at h
        cases h
    · have h1 := HX_w1.out.size
      have h2 := HX_w2.out.size
      have h3 := HX_w3.out.size
      have h0 := (((((HX_w1.out.trans HX_w2.out).trans HX_w3.out).trans HX_w4.out).trans HX_w5.out).trans HX_w6.out).size
      have h4 := HD.out
      refine ((((((((HX_w1.out.trans HX_w2.out).trans HX_w3.out).trans HX_w4.out).trans HX_w5.out).trans HX_w6.out)).andThen HEX.out ?_).andThen hx1 ?_).andThen hx2 ?_
      · intro i hi e
        rcases e with e | e <;> omega
      · intro i hi e
        have := hgl.1
        omega
      · intro i hi e
        omega
end Go.Proofs.YtabjihchcmjdmaaDoor
/-
  The contract of frag.Split, joined. By an AI agent.
-/
namespace Go.Proofs.YtabjihchcmjdmaaDoor
open Go.RowKit

theorem split_no (P : Nat → Prop) (p : Pk) (A : Option Addr) (c : Nat) (m : Int) (w : World) (hr : RB w P (.slice A p.b.length c) p.b) (hA : A = none → c = 0) (hl : p.b.length ≤ 4000) (r : List (List UInt8)) (k : Nat) (h : spe p m = some (r, k)) :
    Calls Tryd.prog 15 #[pkv p (.slice A p.b.length c), .int .i64 m] w fun e w' => ∃ t y, e = .returned (.tuple #[.slice none 0 0, .iface t y]) ∧ EC w' (fun j => w.heap.size ≤ j) r (.iface t y) k ∧ Ex (fun _ => False) w w' := by
  unfold spe at h
  split at h
  · injection h with h; injection h with h1 h2; subst h1 h2
    exact split_1 P p A c m w hr hA (by omega) (by assumption)
  · split at h
    · injection h with h; injection h with h1 h2; subst h1 h2
      exact split_2 P p A c m w hr hA (by omega) (by omega) (by assumption)
    · split at h
      · cases h
      · split at h
        · injection h with h; injection h with h1 h2; subst h1 h2
          exact split_4 P p A c m w hr hA (by omega) (by omega) (by rename_i h2 _ _; exact Classical.not_not.1 h2) (by assumption) (by assumption)
        · cases h
theorem split_yes (P : Nat → Prop) (p : Pk) (A : Option Addr) (c : Nat) (m : Int) (w : World) (hr : RB w P (.slice A p.b.length c) p.b) (hA : A = none → c = 0) (hl : p.b.length ≤ 4000) (h : spe p m = none) :
    Calls Tryd.prog 15 #[pkv p (.slice A p.b.length c), .int .i64 m] w fun e w' => ∃ A' c' os, e = .returned (.tuple #[.slice A' os.length c', .nilIface]) ∧ os.map Prod.fst = parts p m ∧ OP w' w.heap.size (.slice A' os.length c') os ∧ OBS w' w.heap.size os ∧ Ex (fun _ => False) w w' := by
  unfold spe at h
  split at h
  · cases h
  · split at h
    · cases h
    · rename_i h1 h2
      have h2 := Classical.not_not.1 h2
      by_cases h3 : 20 + (p.b.length : Int) ≤ m
      · refine (split_3 P p A c m w hr hA (by omega) (by omega) h2 h3).mono ?_
        rintro e w' ⟨A', c', A1, c1, rfl, hop, hob, hx⟩
        refine ⟨some A', c', [(p, A1, c1)], rfl, ?_, hop, hob, hx⟩
        unfold parts
        rw [if_pos h3]
        rfl
      · rw [if_neg h3] at h
        have h4 : p.df = false := by
          cases hd : p.df
          · rfl
          · rw [if_pos hd] at h; cases h
        exact split_5 P p A c m w hr hl (by omega) h2 (by omega) h4
end Go.Proofs.YtabjihchcmjdmaaDoor
/-
  Contracts of frag's small functions: end, past, the closures of whole. By an AI agent.
-/
namespace Go.Proofs.YtabjihchcmjdmaaDoor
open Go.RowKit

/-- where a part ends -/
def Pk.en (p : Pk) : Int := p.off + (p.b.length : Int)
theorem wrap_en {a : Int} {n : Nat} (h : -1000000 ≤ a ∧ a ≤ 1000000) (hn : n ≤ 1000000000) : wrap64 (a + (n : Int)) = a + (n : Int) ∧ IntKind.i64.wrap (a + (n : Int)) = a + (n : Int) := by
  refine ⟨?_, ?_⟩
  · unfold wrap64; omega
  · rw [IntKind.wrap_i64]; omega
set_option maxRecDepth 100000 in
theorem end_any (p : Pk) (A : Option Addr) (c : Nat) (w : World) (h0 : -1000000 ≤ p.off ∧ p.off ≤ 1000000) (hl : p.b.length ≤ 1000000000) :
    Calls Tryd.prog 40 #[pkv p (.slice A p.b.length c)] w fun e w' => e = .returned (.int .i64 p.en) ∧ Ex (fun _ => False) w w' := by
  obtain ⟨tos, ident, df, mf, off, ttl, pr, src, dst, b⟩ := p
  obtain ⟨e1, e2⟩ := wrap_en h0 hl
  simp only at e1 e2
  clear h0 hl
  show Calls Tryd.prog 40 #[.agg #[.int .u8 tos, .int .u16 ident, .bool df, .bool mf, .int .i64 off, .int .u8 ttl, .int .u8 pr, .int .u32 src, .int .u32 dst, .slice A b.length c]] w fun e w' => e = .returned (.int .i64 (off + (b.length : Int))) ∧ Ex (fun _ => False) w w'
  go_enter Tryd.func40, Tryd.ntmps40
  go_wp2
  go_ret
  exact ⟨rfl, (Ex.refl _ w).alloc _⟩
set_option maxRecDepth 100000 in
theorem isfirst_any (p : Pk) (A : Option Addr) (c : Nat) (w : World) :
    Calls Tryd.prog 43 #[pkv p (.slice A p.b.length c)] w fun e w' => e = .returned (.bool (p.off == 0)) ∧ Ex (fun _ => False) w w' := by
  obtain ⟨tos, ident, df, mf, off, ttl, pr, src, dst, b⟩ := p
  show Calls Tryd.prog 43 #[.agg #[.int .u8 tos, .int .u16 ident, .bool df, .bool mf, .int .i64 off, .int .u8 ttl, .int .u8 pr, .int .u32 src, .int .u32 dst, .slice A b.length c]] w fun e w' => e = .returned (.bool (off == 0)) ∧ Ex (fun _ => False) w w'
  go_enter Tryd.func43, Tryd.ntmps43
  go_wp2
  go_ret
  exact ⟨rfl, (Ex.refl _ w).alloc _⟩
set_option maxRecDepth 100000 in
theorem islast_any (p : Pk) (A : Option Addr) (c : Nat) (w : World) :
    Calls Tryd.prog 44 #[pkv p (.slice A p.b.length c)] w fun e w' => e = .returned (.bool (!p.mf)) ∧ Ex (fun _ => False) w w' := by
  obtain ⟨tos, ident, df, mf, off, ttl, pr, src, dst, b⟩ := p
  show Calls Tryd.prog 44 #[.agg #[.int .u8 tos, .int .u16 ident, .bool df, .bool mf, .int .i64 off, .int .u8 ttl, .int .u8 pr, .int .u32 src, .int .u32 dst, .slice A b.length c]] w fun e w' => e = .returned (.bool (!mf)) ∧ Ex (fun _ => False) w w'
  go_enter Tryd.func44, Tryd.ntmps44
  go_wp2
  go_ret
  exact ⟨rfl, (Ex.refl _ w).alloc _⟩
/-- cmp.Compare of integers -/
def cmpI (a b : Int) : Int := if a < b then -1 else if b < a then 1 else 0
theorem isNaN_any (a : Int) (w : World) : Calls Tryd.prog 56 #[.int .i64 a] w fun e w' => e = .returned (.bool false) ∧ w' = w := by
  go_enter Tryd.func56, Tryd.ntmps56
  go_wp2
  go_ret
  exact ⟨by simp, rfl⟩
theorem compare_any (a b : Int) (w : World) : Calls Tryd.prog 48 #[.int .i64 a, .int .i64 b] w fun e w' => e = .returned (.int .i64 (cmpI a b)) ∧ w' = w := by
  by_cases h1 : a < b
  · have e1 : cmpI a b = -1 := if_pos h1
    rw [e1]
    clear e1
    go_enter Tryd.func48, Tryd.ntmps48
    go_wp2_with (go_at_call 56; refine (isNaN_any _ _).mono ?_; rintro e w' ⟨rfl, rfl⟩)
    go_ret
    exact ⟨rfl, rfl⟩
  · by_cases h2 : b < a
    · have e1 : cmpI a b = 1 := by unfold cmpI; rw [if_neg h1, if_pos h2]
      rw [e1]
      clear e1
      go_enter Tryd.func48, Tryd.ntmps48
      go_wp2_with (go_at_call 56; refine (isNaN_any _ _).mono ?_; rintro e w' ⟨rfl, rfl⟩)
      go_ret
      exact ⟨rfl, rfl⟩
    · have e1 : cmpI a b = 0 := by unfold cmpI; rw [if_neg h1, if_neg h2]
      rw [e1]
      clear e1
      go_enter Tryd.func48, Tryd.ntmps48
      go_wp2_with (go_at_call 56; refine (isNaN_any _ _).mono ?_; rintro e w' ⟨rfl, rfl⟩)
      go_ret
      exact ⟨rfl, rfl⟩
end Go.Proofs.YtabjihchcmjdmaaDoor
