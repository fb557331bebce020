/-
  Messages of law 07: of. By an AI agent.
-/
import Derived.Test.YtbmjkcocnmfpaaaDoorMsB
import Derived.Laws.StructEq
namespace Go.Proofs.YtbmjkcocnmfpaaaDoor
open Go.RowKit

/-- the document's message, as a value -/
def rmv (m : Ms) : Value := .agg #[.int .u32 m.ty, .int .u32 m.co, .int .u32 m.rest, .string (bs m.b)]
theorem rm_size : (Tryd.prog.info? 33).map (·.size) = some 4 := by kernel_rfl
/-- are two messages the same -/
def Ms.eqB (p q : Ms) : Bool := decide (p.ty = q.ty) && (decide (p.co = q.co) && (decide (p.rest = q.rest) && decide ((bs p.b).toList = (bs q.b).toList)))
theorem mbs_toL (a b : List UInt8) (h : (bs a).toList = (bs b).toList) : a = b := by
  rw [ByteArray.toList_eq, ByteArray.toList_eq, bs_toList, bs_toList] at h
  exact h
theorem Ms.eqB_iff (p q : Ms) : p.eqB q = true ↔ p = q := by
  constructor
  · intro h
    unfold Ms.eqB at h
    simp only [Bool.and_eq_true, decide_eq_true_eq] at h
    obtain ⟨ty, co, rest, b⟩ := p
    obtain ⟨ty', co', rest', b'⟩ := q
    obtain ⟨h0, h1, h2, h9⟩ := h
    simp only at h0 h1 h2 h9
    rw [h0, h1, h2, mbs_toL b b' h9]
  · intro h
    subst h
    simp [Ms.eqB]
theorem Ms.eqB_self (p : Ms) : p.eqB p = true := (p.eqB_iff p).2 rfl
theorem Ms.eqB_dec (p q : Ms) : p.eqB q = @decide (p = q) (Classical.propDecidable _) := by
  by_cases h : p = q
  · rw [(p.eqB_iff q).2 h]; simp [h]
  · have : p.eqB q = false := by rw [Bool.eq_false_iff]; exact fun h' => h ((p.eqB_iff q).1 h')
    rw [this]; simp [h]
set_option maxRecDepth 100000 in
set_option maxHeartbeats 2000000 in
theorem of7_any (P : Nat → Prop) (m : Ms) (A : Option Addr) (c : Nat) (w : World) (ok : m.ok) (hr : RB w P (.slice A m.b.length c) m.b) :
    Calls Tryd.prog 8 #[msv m (.slice A m.b.length c)] w fun e w' => e = .returned (rmv m) ∧ Ex (fun _ => False) w w' := by
  obtain ⟨ty, co, rest, b⟩ := m
  obtain ⟨⟨o00, o01⟩, ⟨o10, o11⟩, ⟨o20, o21⟩⟩ := ok
  simp only at o00 o01 o10 o11 o20 o21 hr
  have HR := Lib.hid hr
  clear hr
  show Calls Tryd.prog 8 #[.agg #[.int .u8 ty, .int .u8 co, .int .u32 rest, .slice A b.length c]] w fun e w' => e = .returned (.agg #[.int .u32 ty, .int .u32 co, .int .u32 rest, .string (bs b)]) ∧ Ex (fun _ => False) w w'
  go_enter Tryd.func8, Tryd.ntmps8
  go_upto_region 1 with fail
  have hx : Ex (fun _ => False) w (w.alloc (.cells #[.int .u8 ty, .int .u8 co, .int .u32 rest, .slice A b.length c] 25)) := (Ex.refl _ w).alloc _
  have hb : (w.alloc (.cells #[.int .u8 ty, .int .u8 co, .int .u32 rest, .slice A b.length c] 25)).heap[w.heap.size]? = some (.cells #[.int .u8 ty, .int .u8 co, .int .u32 rest, .slice A b.length c] 25) := heap_alloc_new w _
  have hs1 : (w.alloc (.cells #[.int .u8 ty, .int .u8 co, .int .u32 rest, .slice A b.length c] 25)).heap.size = w.heap.size + 1 := by simp
  obtain ⟨pb0, hpb0⟩ : ∃ pb0, pb0 = w.heap.size := ⟨_, rfl⟩
  have hb_pb0 : w.heap.size ≤ pb0 := by omega
  rw [← hpb0] at hb hs1 
  try simp only [← hpb0]
  generalize w.alloc (.cells #[.int .u8 ty, .int .u8 co, .int .u32 rest, .slice A b.length c] 25) = w1 at hx hb  hs1 ⊢
  try simp only [← hs1]
  clear hs1
  clear hpb0
  have HX_w1 := Lib.hid hx
  clear hx
  have B_pb0 := Lib.hid hb
  clear hb
  have hx : Ex (fun _ => False) w1 (w1.alloc (.cells #[.int .u32 0, .int .u32 0, .int .u32 0, .string ⟨#[]⟩] 33)) := (Ex.refl _ w1).alloc _
  have hb : (w1.alloc (.cells #[.int .u32 0, .int .u32 0, .int .u32 0, .string ⟨#[]⟩] 33)).heap[w1.heap.size]? = some (.cells #[.int .u32 0, .int .u32 0, .int .u32 0, .string ⟨#[]⟩] 33) := heap_alloc_new w1 _
  obtain ⟨rb, hrb⟩ : ∃ rb, rb = w1.heap.size := ⟨_, rfl⟩
  have hb_rb : w1.heap.size ≤ rb := by omega
  rw [← hrb] at hb
  try simp only [← hrb]
  generalize w1.alloc (.cells #[.int .u32 0, .int .u32 0, .int .u32 0, .string ⟨#[]⟩] 33) = w2 at hx hb ⊢
  clear hrb
  have HX_w2 := Lib.hid hx
  clear hx
  have B_rb := Lib.hid hb
  clear hb
  replace B_pb0 := Lib.hid ((HX_w2.out.block pb0 (row_lt B_pb0.out) id).trans B_pb0.out)
  have cpb00 := row_cell (k := 0) (v := .int .u8 ty) B_pb0.out rfl
  have cpb01 := row_cell (k := 1) (v := .int .u8 co) B_pb0.out rfl
  have cpb02 := row_cell (k := 2) (v := .int .u32 rest) B_pb0.out rfl
  have cpb03 := row_cell (k := 3) (v := .slice A b.length c) B_pb0.out rfl
  have frb0 := row_frozen B_rb.out 0
  have frb1 := row_frozen B_rb.out 1
  have frb2 := row_frozen B_rb.out 2
  have frb3 := row_frozen B_rb.out 3
  have crb0 := row_cell (k := 0) (v := .int .u32 0) B_rb.out rfl
  have crb1 := row_cell (k := 1) (v := .int .u32 0) B_rb.out rfl
  have crb2 := row_cell (k := 2) (v := .int .u32 0) B_rb.out rfl
  have crb3 := row_cell (k := 3) (v := .string ⟨#[]⟩) B_rb.out rfl
  have hcv := ((RB.keep HR.out (HX_w1.out.trans HX_w2.out) (fun _ _ _ => id))).str (Pr := Tryd.prog) 23 9 5 Tryd.underlying23 Tryd.underlying5 Tryd.underlying9
  go_wp2_with fail
  (try simp only [Exit.inBlock, Exit.then])
  clear hcv cpb00 cpb01 cpb02 cpb03
  have r0 : (w2.setCell ⟨rb, 0, none⟩ (.int .u32 ty)).heap[rb]? = some (.cells #[.int .u32 ty, .int .u32 0, .int .u32 0, .string ⟨#[]⟩] 33) := row_set B_rb.out 0 (.int .u32 ty)
  have r1 : ((w2.setCell ⟨rb, 0, none⟩ (.int .u32 ty)).setCell ⟨rb, 1, none⟩ (.int .u32 co)).heap[rb]? = some (.cells #[.int .u32 ty, .int .u32 co, .int .u32 0, .string ⟨#[]⟩] 33) := row_set r0 1 (.int .u32 co)
  clear r0
  have r2 : (((w2.setCell ⟨rb, 0, none⟩ (.int .u32 ty)).setCell ⟨rb, 1, none⟩ (.int .u32 co)).setCell ⟨rb, 2, none⟩ (.int .u32 rest)).heap[rb]? = some (.cells #[.int .u32 ty, .int .u32 co, .int .u32 rest, .string ⟨#[]⟩] 33) := row_set r1 2 (.int .u32 rest)
  clear r1
  have r3 : ((((w2.setCell ⟨rb, 0, none⟩ (.int .u32 ty)).setCell ⟨rb, 1, none⟩ (.int .u32 co)).setCell ⟨rb, 2, none⟩ (.int .u32 rest)).setCell ⟨rb, 3, none⟩ (.string (bs b))).heap[rb]? = some (.cells #[.int .u32 ty, .int .u32 co, .int .u32 rest, .string (bs b)] 33) := row_set r2 3 (.string (bs b))
  clear r2
  have hx : Ex (fun j => j = rb) w2 ((((w2.setCell ⟨rb, 0, none⟩ (.int .u32 ty)).setCell ⟨rb, 1, none⟩ (.int .u32 co)).setCell ⟨rb, 2, none⟩ (.int .u32 rest)).setCell ⟨rb, 3, none⟩ (.string (bs b))) := (((((Ex.refl (fun j => j = rb) w2).setCell (p := ⟨rb, 0, none⟩) (.inl rfl) (.int .u32 ty)).setCell (p := ⟨rb, 1, none⟩) (.inl rfl) (.int .u32 co)).setCell (p := ⟨rb, 2, none⟩) (.inl rfl) (.int .u32 rest)).setCell (p := ⟨rb, 3, none⟩) (.inl rfl) (.string (bs b)))
  clear frb0 frb1 frb2 frb3 crb0 crb1 crb2 crb3
  generalize ((((w2.setCell ⟨rb, 0, none⟩ (.int .u32 ty)).setCell ⟨rb, 1, none⟩ (.int .u32 co)).setCell ⟨rb, 2, none⟩ (.int .u32 rest)).setCell ⟨rb, 3, none⟩ (.string (bs b))) = wz at r3 hx ⊢
  replace B_rb := Lib.hid r3
  clear r3
  have HX_wz := Lib.hid hx
  clear hx
  refine bodyPost_ret (v := .agg #[.int .u32 ty, .int .u32 co, .int .u32 rest, .string (bs b)]) ?_ rfl ⟨rfl, ((HX_w1.out.trans HX_w2.out).andThen HX_wz.out (fun i hi e => by have := HX_w1.out.size; have := hb_rb; omega))⟩
  exact results_cell_row (p := 2) rfl _ _ rb 33 #[.int .u32 ty, .int .u32 co, .int .u32 rest, .string (bs b)] (0, 0) _ rfl B_rb.out Tryd.underlying33 rfl rm_size
theorem rmv_eq (p q : Ms) (w : World) : (binOp .eql 33 (rmv p) (rmv q)).run Tryd.prog w = .ok (.bool (p.eqB q)) w := by
  unfold rmv Ms.eqB
  go_simp
  by_cases h0 : p.ty = q.ty
  case neg => rw [if_neg h0, decide_eq_false h0]; simp
  rw [if_pos h0, decide_eq_true h0]
  by_cases h1 : p.co = q.co
  case neg => rw [if_neg h1, decide_eq_false h1]; simp
  rw [if_pos h1, decide_eq_true h1]
  by_cases h2 : p.rest = q.rest
  case neg => rw [if_neg h2, decide_eq_false h2]; simp
  rw [if_pos h2, decide_eq_true h2]
  by_cases h3 : (bs p.b).toList = (bs q.b).toList
  case neg => rw [if_neg h3, decide_eq_false h3]; simp
  rw [if_pos h3, decide_eq_true h3]
  simp
theorem rmv_neq (p q : Ms) (w : World) : (binOp .neq 33 (rmv p) (rmv q)).run Tryd.prog w = .ok (.bool (!p.eqB q)) w := by
  unfold rmv Ms.eqB
  go_simp
  by_cases h0 : p.ty = q.ty
  case neg => rw [if_neg h0, decide_eq_false h0]; simp
  rw [if_pos h0, decide_eq_true h0]
  by_cases h1 : p.co = q.co
  case neg => rw [if_neg h1, decide_eq_false h1]; simp
  rw [if_pos h1, decide_eq_true h1]
  by_cases h2 : p.rest = q.rest
  case neg => rw [if_neg h2, decide_eq_false h2]; simp
  rw [if_pos h2, decide_eq_true h2]
  by_cases h3 : (bs p.b).toList = (bs q.b).toList
  case neg => rw [if_neg h3, decide_eq_false h3]; simp
  rw [if_pos h3, decide_eq_true h3]
  simp
theorem rmv_guard (op : BinOp) (x y : Operand) (p q : Ms) (w : World) : (eqGuard op 33 x y (rmv p) (rmv q)).run Tryd.prog w = .ok () w := run_eqGuard_agg w op _ x y _ _ (by kernel_rfl)
end Go.Proofs.YtbmjkcocnmfpaaaDoor
