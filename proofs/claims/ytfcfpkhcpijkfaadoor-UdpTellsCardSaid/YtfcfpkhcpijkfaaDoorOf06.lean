/-
  Datagrams of law 06: of. By an AI agent.
-/
import Derived.Test.YtfcfpkhcpijkfaaDoorDgT
import Derived.Laws.StructEq
namespace Go.Proofs.YtfcfpkhcpijkfaaDoor
open Go.RowKit

/-- the document's datagram, as a value -/
def rdv (d : Dg) : Value := .agg #[.int .u32 d.src, .int .u32 d.dst, .bool d.pl, .string (bs d.b)]
theorem rd_size : (Tryd.prog.info? 34).map (·.size) = some 4 := by kernel_rfl
/-- are two datagrams the same -/
def Dg.eqB (p q : Dg) : Bool := decide (p.src = q.src) && (decide (p.dst = q.dst) && (decide (p.pl = q.pl) && decide ((bs p.b).toList = (bs q.b).toList)))
theorem dbs_toL (a b : List UInt8) (h : (bs a).toList = (bs b).toList) : a = b := by
  rw [ByteArray.toList_eq, ByteArray.toList_eq, bs_toList, bs_toList] at h
  exact h
theorem Dg.eqB_iff (p q : Dg) : p.eqB q = true ↔ p = q := by
  constructor
  · intro h
    unfold Dg.eqB at h
    simp only [Bool.and_eq_true, decide_eq_true_eq] at h
    obtain ⟨src, dst, pl, b⟩ := p
    obtain ⟨src', dst', pl', b'⟩ := q
    obtain ⟨h0, h1, h2, h9⟩ := h
    simp only at h0 h1 h2 h9
    rw [h0, h1, h2, dbs_toL b b' h9]
  · intro h
    subst h
    simp [Dg.eqB]
theorem Dg.eqB_self (p : Dg) : p.eqB p = true := (p.eqB_iff p).2 rfl
set_option maxRecDepth 100000 in
set_option maxHeartbeats 2000000 in
theorem of6_any (P : Nat → Prop) (d : Dg) (A : Option Addr) (c : Nat) (w : World) (ok : d.ok) (hr : RB w P (.slice A d.b.length c) d.b) :
    Calls Tryd.prog 19 #[dgv d (.slice A d.b.length c)] w fun e w' => e = .returned (rdv d) ∧ Ex (fun _ => False) w w' := by
  obtain ⟨src, dst, pl, b⟩ := d
  obtain ⟨⟨o00, o01⟩, ⟨o10, o11⟩⟩ := ok
  simp only at o00 o01 o10 o11 hr
  have HR := Lib.hid hr
  clear hr
  show Calls Tryd.prog 19 #[.agg #[.int .u16 src, .int .u16 dst, .bool pl, .slice A b.length c]] w fun e w' => e = .returned (.agg #[.int .u32 src, .int .u32 dst, .bool pl, .string (bs b)]) ∧ Ex (fun _ => False) w w'
  go_enter Tryd.func19, Tryd.ntmps19
  go_upto_region 1 with fail
  have hx : Ex (fun _ => False) w (w.alloc (.cells #[.int .u16 src, .int .u16 dst, .bool pl, .slice A b.length c] 25)) := (Ex.refl _ w).alloc _
  have hb : (w.alloc (.cells #[.int .u16 src, .int .u16 dst, .bool pl, .slice A b.length c] 25)).heap[w.heap.size]? = some (.cells #[.int .u16 src, .int .u16 dst, .bool pl, .slice A b.length c] 25) := heap_alloc_new w _
  have hs1 : (w.alloc (.cells #[.int .u16 src, .int .u16 dst, .bool pl, .slice A b.length c] 25)).heap.size = w.heap.size + 1 := by simp
  obtain ⟨pb0, hpb0⟩ : ∃ pb0, pb0 = w.heap.size := ⟨_, rfl⟩
  have hb_pb0 : w.heap.size ≤ pb0 := by omega
  rw [← hpb0] at hb hs1 
  try simp only [← hpb0]
  generalize w.alloc (.cells #[.int .u16 src, .int .u16 dst, .bool pl, .slice A b.length c] 25) = w1 at hx hb  hs1 ⊢
  try simp only [← hs1]
  clear hs1
  clear hpb0
  have HX_w1 := Lib.hid hx
  clear hx
  have B_pb0 := Lib.hid hb
  clear hb
  have hx : Ex (fun _ => False) w1 (w1.alloc (.cells #[.int .u32 0, .int .u32 0, .bool false, .string ⟨#[]⟩] 34)) := (Ex.refl _ w1).alloc _
  have hb : (w1.alloc (.cells #[.int .u32 0, .int .u32 0, .bool false, .string ⟨#[]⟩] 34)).heap[w1.heap.size]? = some (.cells #[.int .u32 0, .int .u32 0, .bool false, .string ⟨#[]⟩] 34) := heap_alloc_new w1 _
  obtain ⟨rb, hrb⟩ : ∃ rb, rb = w1.heap.size := ⟨_, rfl⟩
  have hb_rb : w1.heap.size ≤ rb := by omega
  rw [← hrb] at hb
  try simp only [← hrb]
  generalize w1.alloc (.cells #[.int .u32 0, .int .u32 0, .bool false, .string ⟨#[]⟩] 34) = w2 at hx hb ⊢
  clear hrb
  have HX_w2 := Lib.hid hx
  clear hx
  have B_rb := Lib.hid hb
  clear hb
  replace B_pb0 := Lib.hid ((HX_w2.out.block pb0 (row_lt B_pb0.out) id).trans B_pb0.out)
  have cpb00 := row_cell (k := 0) (v := .int .u16 src) B_pb0.out rfl
  have cpb01 := row_cell (k := 1) (v := .int .u16 dst) B_pb0.out rfl
  have cpb02 := row_cell (k := 2) (v := .bool pl) B_pb0.out rfl
  have cpb03 := row_cell (k := 3) (v := .slice A b.length c) B_pb0.out rfl
  have frb0 := row_frozen B_rb.out 0
  have frb1 := row_frozen B_rb.out 1
  have frb2 := row_frozen B_rb.out 2
  have frb3 := row_frozen B_rb.out 3
  have crb0 := row_cell (k := 0) (v := .int .u32 0) B_rb.out rfl
  have crb1 := row_cell (k := 1) (v := .int .u32 0) B_rb.out rfl
  have crb2 := row_cell (k := 2) (v := .bool false) B_rb.out rfl
  have crb3 := row_cell (k := 3) (v := .string ⟨#[]⟩) B_rb.out rfl
  have hcv := ((RB.keep HR.out (HX_w1.out.trans HX_w2.out) (fun _ _ _ => id))).str (Pr := Tryd.prog) 22 9 5 Tryd.underlying22 Tryd.underlying5 Tryd.underlying9
  go_wp2_with fail
  (try simp only [Exit.inBlock, Exit.then])
  clear hcv cpb00 cpb01 cpb02 cpb03
  have r0 : (w2.setCell ⟨rb, 0, none⟩ (.int .u32 src)).heap[rb]? = some (.cells #[.int .u32 src, .int .u32 0, .bool false, .string ⟨#[]⟩] 34) := row_set B_rb.out 0 (.int .u32 src)
  have r1 : ((w2.setCell ⟨rb, 0, none⟩ (.int .u32 src)).setCell ⟨rb, 1, none⟩ (.int .u32 dst)).heap[rb]? = some (.cells #[.int .u32 src, .int .u32 dst, .bool false, .string ⟨#[]⟩] 34) := row_set r0 1 (.int .u32 dst)
  clear r0
  have r2 : (((w2.setCell ⟨rb, 0, none⟩ (.int .u32 src)).setCell ⟨rb, 1, none⟩ (.int .u32 dst)).setCell ⟨rb, 2, none⟩ (.bool pl)).heap[rb]? = some (.cells #[.int .u32 src, .int .u32 dst, .bool pl, .string ⟨#[]⟩] 34) := row_set r1 2 (.bool pl)
  clear r1
  have r3 : ((((w2.setCell ⟨rb, 0, none⟩ (.int .u32 src)).setCell ⟨rb, 1, none⟩ (.int .u32 dst)).setCell ⟨rb, 2, none⟩ (.bool pl)).setCell ⟨rb, 3, none⟩ (.string (bs b))).heap[rb]? = some (.cells #[.int .u32 src, .int .u32 dst, .bool pl, .string (bs b)] 34) := row_set r2 3 (.string (bs b))
  clear r2
  have hx : Ex (fun j => j = rb) w2 ((((w2.setCell ⟨rb, 0, none⟩ (.int .u32 src)).setCell ⟨rb, 1, none⟩ (.int .u32 dst)).setCell ⟨rb, 2, none⟩ (.bool pl)).setCell ⟨rb, 3, none⟩ (.string (bs b))) := (((((Ex.refl (fun j => j = rb) w2).setCell (p := ⟨rb, 0, none⟩) (.inl rfl) (.int .u32 src)).setCell (p := ⟨rb, 1, none⟩) (.inl rfl) (.int .u32 dst)).setCell (p := ⟨rb, 2, none⟩) (.inl rfl) (.bool pl)).setCell (p := ⟨rb, 3, none⟩) (.inl rfl) (.string (bs b)))
  clear frb0 frb1 frb2 frb3 crb0 crb1 crb2 crb3
  generalize ((((w2.setCell ⟨rb, 0, none⟩ (.int .u32 src)).setCell ⟨rb, 1, none⟩ (.int .u32 dst)).setCell ⟨rb, 2, none⟩ (.bool pl)).setCell ⟨rb, 3, none⟩ (.string (bs b))) = wz at r3 hx ⊢
  replace B_rb := Lib.hid r3
  clear r3
  have HX_wz := Lib.hid hx
  clear hx
  refine bodyPost_ret (v := .agg #[.int .u32 src, .int .u32 dst, .bool pl, .string (bs b)]) ?_ rfl ⟨rfl, ((HX_w1.out.trans HX_w2.out).andThen HX_wz.out (fun i hi e => by have := HX_w1.out.size; have := hb_rb; omega))⟩
  exact results_cell_row (p := 2) rfl _ _ rb 34 #[.int .u32 src, .int .u32 dst, .bool pl, .string (bs b)] (0, 0) _ rfl B_rb.out Tryd.underlying34 rfl rd_size
theorem rdv_eq (p q : Dg) (w : World) : (binOp .eql 34 (rdv p) (rdv q)).run Tryd.prog w = .ok (.bool (p.eqB q)) w := by
  unfold rdv Dg.eqB
  go_simp
  by_cases h0 : p.src = q.src
  case neg => rw [if_neg h0, decide_eq_false h0]; simp
  rw [if_pos h0, decide_eq_true h0]
  by_cases h1 : p.dst = q.dst
  case neg => rw [if_neg h1, decide_eq_false h1]; simp
  rw [if_pos h1, decide_eq_true h1]
  by_cases h2 : p.pl = q.pl
  case neg => rw [if_neg h2, decide_eq_false h2]; simp
  rw [if_pos h2, decide_eq_true h2]
  by_cases h3 : (bs p.b).toList = (bs q.b).toList
  case neg => rw [if_neg h3, decide_eq_false h3]; simp
  rw [if_pos h3, decide_eq_true h3]
  simp
theorem rdv_neq (p q : Dg) (w : World) : (binOp .neq 34 (rdv p) (rdv q)).run Tryd.prog w = .ok (.bool (!p.eqB q)) w := by
  unfold rdv Dg.eqB
  go_simp
  by_cases h0 : p.src = q.src
  case neg => rw [if_neg h0, decide_eq_false h0]; simp
  rw [if_pos h0, decide_eq_true h0]
  by_cases h1 : p.dst = q.dst
  case neg => rw [if_neg h1, decide_eq_false h1]; simp
  rw [if_pos h1, decide_eq_true h1]
  by_cases h2 : p.pl = q.pl
  case neg => rw [if_neg h2, decide_eq_false h2]; simp
  rw [if_pos h2, decide_eq_true h2]
  by_cases h3 : (bs p.b).toList = (bs q.b).toList
  case neg => rw [if_neg h3, decide_eq_false h3]; simp
  rw [if_pos h3, decide_eq_true h3]
  simp
theorem rdv_guard (op : BinOp) (x y : Operand) (p q : Dg) (w : World) : (eqGuard op 34 x y (rdv p) (rdv q)).run Tryd.prog w = .ok () w := run_eqGuard_agg w op _ x y _ _ (by kernel_rfl)
end Go.Proofs.YtfcfpkhcpijkfaaDoor
