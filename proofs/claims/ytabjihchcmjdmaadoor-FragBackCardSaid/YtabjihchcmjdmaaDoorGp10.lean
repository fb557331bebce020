/-
  past. By an AI agent.
-/
import Derived.Test.YtabjihchcmjdmaaDoorGb10
/-
  The contracts of bytes.Equal and frag.past. By an AI agent.
-/
namespace Go.Proofs.YtabjihchcmjdmaaDoor
open Go.RowKit

theorem bequal_any (P Q : Nat → Prop) (a b : List UInt8) (u v : Value) (w : World) (ha : RB w P u a) (hb : RB w Q v b) :
    Calls Tryd.prog 41 #[u, v] w fun e w' => e = .returned (.bool (decide (a = b))) ∧ w' = w := by
  have q1 := ha.str (Pr := Tryd.prog) 25 9 5 Tryd.underlying25 Tryd.underlying5 Tryd.underlying9
  have q2 := hb.str (Pr := Tryd.prog) 25 9 5 Tryd.underlying25 Tryd.underlying5 Tryd.underlying9
  obtain ⟨_, A, c, rfl, _, _⟩ := ha
  obtain ⟨_, B, d, rfl, _, _⟩ := hb
  have hz : ((bs a).toList == (bs b).toList) = decide (a = b) := by
    by_cases h : a = b
    · subst h; simp
    · rw [decide_eq_false h, beq_eq_false_iff_ne]
      exact fun h' => h (bs_toL a b h')
  go_enter Tryd.func41, Tryd.ntmps41
  go_wp2_with fail
  go_ret
  exact ⟨rfl, rfl⟩
/-- frag.past -/
def pastB (p q : Pk) : Bool := !q.mf && (decide (q.en < p.en) || (!p.mf && decide (p.en ≠ q.en)))
set_option maxRecDepth 100000 in
set_option maxHeartbeats 4000000 in
theorem past_1 (p q : Pk) (A B : Option Addr) (c d : Nat) (w : World) (h1 : ∀ w, Calls Tryd.prog 40 #[pkv p (.slice A p.b.length c)] w fun e w' => e = .returned (.int .i64 p.en) ∧ Ex (fun _ => False) w w') (h2 : ∀ w, Calls Tryd.prog 40 #[pkv q (.slice B q.b.length d)] w fun e w' => e = .returned (.int .i64 q.en) ∧ Ex (fun _ => False) w w') (hq : q.mf = true) :
    Calls Tryd.prog 42 #[pkv p (.slice A p.b.length c), pkv q (.slice B q.b.length d)] w fun e w' => e = .returned (.bool false) ∧ Ex (fun _ => False) w w' := by
  obtain ⟨X, hX⟩ : ∃ X, p.en = X := ⟨_, rfl⟩
  obtain ⟨Y, hY⟩ : ∃ Y, q.en = Y := ⟨_, rfl⟩
  simp only [hX] at *
  simp only [hY] at *
  obtain ⟨xtos, xid, xdf, xmf, xoff, xttl, xpr, xsrc, xdst, xb⟩ := p
  obtain ⟨ytos, yid, ydf, ymf, yoff, yttl, ypr, ysrc, ydst, yb⟩ := q
  have H1 := Lib.hid h1
  have H2 := Lib.hid h2
  clear h1 h2 hX hY
  have hq2 : ymf = true := hq
  clear hq
  subst hq2
  show Calls Tryd.prog 42 #[.agg #[.int .u8 xtos, .int .u16 xid, .bool xdf, .bool xmf, .int .i64 xoff, .int .u8 xttl, .int .u8 xpr, .int .u32 xsrc, .int .u32 xdst, .slice A xb.length c], .agg #[.int .u8 ytos, .int .u16 yid, .bool ydf, .bool true, .int .i64 yoff, .int .u8 yttl, .int .u8 ypr, .int .u32 ysrc, .int .u32 ydst, .slice B yb.length d]] w _
  go_enter Tryd.func42, Tryd.ntmps42
  go_upto_region 1 with fail
  have hx : Ex (fun _ => False) w (w.alloc (.cells #[.int .u8 xtos, .int .u16 xid, .bool xdf, .bool xmf, .int .i64 xoff, .int .u8 xttl, .int .u8 xpr, .int .u32 xsrc, .int .u32 xdst, .slice A xb.length c] 27)) := (Ex.refl _ w).alloc _
  have hb : (w.alloc (.cells #[.int .u8 xtos, .int .u16 xid, .bool xdf, .bool xmf, .int .i64 xoff, .int .u8 xttl, .int .u8 xpr, .int .u32 xsrc, .int .u32 xdst, .slice A xb.length c] 27)).heap[w.heap.size]? = some (.cells #[.int .u8 xtos, .int .u16 xid, .bool xdf, .bool xmf, .int .i64 xoff, .int .u8 xttl, .int .u8 xpr, .int .u32 xsrc, .int .u32 xdst, .slice A xb.length c] 27) := heap_alloc_new w _
  have hs1 : (w.alloc (.cells #[.int .u8 xtos, .int .u16 xid, .bool xdf, .bool xmf, .int .i64 xoff, .int .u8 xttl, .int .u8 xpr, .int .u32 xsrc, .int .u32 xdst, .slice A xb.length c] 27)).heap.size = w.heap.size + 1 := by simp
  obtain ⟨pb, hpb⟩ : ∃ pb, pb = w.heap.size := ⟨_, rfl⟩
  have hb_pb : w.heap.size ≤ pb := by omega
  rw [← hpb] at hb hs1 
  try simp only [← hpb]
  generalize w.alloc (.cells #[.int .u8 xtos, .int .u16 xid, .bool xdf, .bool xmf, .int .i64 xoff, .int .u8 xttl, .int .u8 xpr, .int .u32 xsrc, .int .u32 xdst, .slice A xb.length c] 27) = w1 at hx hb  hs1 ⊢
  try simp only [← hs1]
  clear hs1
  clear hpb
  have HX_w1 := Lib.hid hx
  clear hx
  have B_pb := Lib.hid hb
  clear hb
  have hx : Ex (fun _ => False) w1 (w1.alloc (.cells #[.int .u8 ytos, .int .u16 yid, .bool ydf, .bool true, .int .i64 yoff, .int .u8 yttl, .int .u8 ypr, .int .u32 ysrc, .int .u32 ydst, .slice B yb.length d] 27)) := (Ex.refl _ w1).alloc _
  have hb : (w1.alloc (.cells #[.int .u8 ytos, .int .u16 yid, .bool ydf, .bool true, .int .i64 yoff, .int .u8 yttl, .int .u8 ypr, .int .u32 ysrc, .int .u32 ydst, .slice B yb.length d] 27)).heap[w1.heap.size]? = some (.cells #[.int .u8 ytos, .int .u16 yid, .bool ydf, .bool true, .int .i64 yoff, .int .u8 yttl, .int .u8 ypr, .int .u32 ysrc, .int .u32 ydst, .slice B yb.length d] 27) := heap_alloc_new w1 _
  obtain ⟨qb, hqb⟩ : ∃ qb, qb = w1.heap.size := ⟨_, rfl⟩
  have hb_qb : w1.heap.size ≤ qb := by omega
  rw [← hqb] at hb
  try simp only [← hqb]
  generalize w1.alloc (.cells #[.int .u8 ytos, .int .u16 yid, .bool ydf, .bool true, .int .i64 yoff, .int .u8 yttl, .int .u8 ypr, .int .u32 ysrc, .int .u32 ydst, .slice B yb.length d] 27) = w2 at hx hb ⊢
  clear hqb
  have HX_w2 := Lib.hid hx
  clear hx
  have B_qb := Lib.hid hb
  clear hb
  replace B_pb := Lib.hid ((HX_w2.out.block pb (row_lt B_pb.out) id).trans B_pb.out)
  have cpb0 := row_cell (k := 0) (v := .int .u8 xtos) B_pb.out rfl
  have cpb1 := row_cell (k := 1) (v := .int .u16 xid) B_pb.out rfl
  have cpb2 := row_cell (k := 2) (v := .bool xdf) B_pb.out rfl
  have cpb3 := row_cell (k := 3) (v := .bool xmf) B_pb.out rfl
  have cpb4 := row_cell (k := 4) (v := .int .i64 xoff) B_pb.out rfl
  have cpb5 := row_cell (k := 5) (v := .int .u8 xttl) B_pb.out rfl
  have cpb6 := row_cell (k := 6) (v := .int .u8 xpr) B_pb.out rfl
  have cpb7 := row_cell (k := 7) (v := .int .u32 xsrc) B_pb.out rfl
  have cpb8 := row_cell (k := 8) (v := .int .u32 xdst) B_pb.out rfl
  have cpb9 := row_cell (k := 9) (v := .slice A xb.length c) B_pb.out rfl
  have cqb0 := row_cell (k := 0) (v := .int .u8 ytos) B_qb.out rfl
  have cqb1 := row_cell (k := 1) (v := .int .u16 yid) B_qb.out rfl
  have cqb2 := row_cell (k := 2) (v := .bool ydf) B_qb.out rfl
  have cqb3 := row_cell (k := 3) (v := .bool true) B_qb.out rfl
  have cqb4 := row_cell (k := 4) (v := .int .i64 yoff) B_qb.out rfl
  have cqb5 := row_cell (k := 5) (v := .int .u8 yttl) B_qb.out rfl
  have cqb6 := row_cell (k := 6) (v := .int .u8 ypr) B_qb.out rfl
  have cqb7 := row_cell (k := 7) (v := .int .u32 ysrc) B_qb.out rfl
  have cqb8 := row_cell (k := 8) (v := .int .u32 ydst) B_qb.out rfl
  have cqb9 := row_cell (k := 9) (v := .slice B yb.length d) B_qb.out rfl
  have hS0 : Ex (fun _ => False) w2 w2.drew := (Ex.refl _ w2).drew
  refine wp_region_held_drew (S := fun W => Ex (fun _ => False) w2 W) (by kernel_rfl) hS0 (fun _ => ?_)
  refine wpAnyH_take (i := 0) (oi := { dst := some 5, op := Go.Op.fieldAddr 27 (Go.Operand.tmp 3) 3, type := 0, pos := "frag.go:83", after := #[], guard := none }) (v := ?v1) rfl (by kernel_rfl) (by kernel_rfl) (by kernel_rfl) (fun _ _ _ h => h) (Or.inl ⟨by rfl, ?hy1⟩) (by assumption) ?rest1
  case hy1 => (intro w hSw; (try dsimp only at hSw); have ecpb0 := hSw.cell cpb0 id; have ecpb1 := hSw.cell cpb1 id; have ecpb2 := hSw.cell cpb2 id; have ecpb3 := hSw.cell cpb3 id; have ecpb4 := hSw.cell cpb4 id; have ecpb5 := hSw.cell cpb5 id; have ecpb6 := hSw.cell cpb6 id; have ecpb7 := hSw.cell cpb7 id; have ecpb8 := hSw.cell cpb8 id; have ecpb9 := hSw.cell cpb9 id; have ecqb0 := hSw.cell cqb0 id; have ecqb1 := hSw.cell cqb1 id; have ecqb2 := hSw.cell cqb2 id; have ecqb3 := hSw.cell cqb3 id; have ecqb4 := hSw.cell cqb4 id; have ecqb5 := hSw.cell cqb5 id; have ecqb6 := hSw.cell cqb6 id; have ecqb7 := hSw.cell cqb7 id; have ecqb8 := hSw.cell cqb8 id; have ecqb9 := hSw.cell cqb9 id; go_simp <;> with_reducible rfl)
  try simp only [Act.put, List.setIfInBounds_toArray, List.set_cons_zero, List.set_cons_succ]
  refine wpAnyH_take (i := 1) (oi := { dst := some 6, op := Go.Op.load 4 (Go.Operand.tmp 5), type := 4, pos := "frag.go:83", after := #[{ on := 0, ground := Go.Ground.data }], guard := none }) (v := ?v2) rfl (by kernel_rfl) (by kernel_rfl) (by kernel_rfl) (fun _ _ _ h => h) (Or.inl ⟨by rfl, ?hy2⟩) (by assumption) ?rest2
  case hy2 => (intro w hSw; (try dsimp only at hSw); have ecpb0 := hSw.cell cpb0 id; have ecpb1 := hSw.cell cpb1 id; have ecpb2 := hSw.cell cpb2 id; have ecpb3 := hSw.cell cpb3 id; have ecpb4 := hSw.cell cpb4 id; have ecpb5 := hSw.cell cpb5 id; have ecpb6 := hSw.cell cpb6 id; have ecpb7 := hSw.cell cpb7 id; have ecpb8 := hSw.cell cpb8 id; have ecpb9 := hSw.cell cpb9 id; have ecqb0 := hSw.cell cqb0 id; have ecqb1 := hSw.cell cqb1 id; have ecqb2 := hSw.cell cqb2 id; have ecqb3 := hSw.cell cqb3 id; have ecqb4 := hSw.cell cqb4 id; have ecqb5 := hSw.cell cqb5 id; have ecqb6 := hSw.cell cqb6 id; have ecqb7 := hSw.cell cqb7 id; have ecqb8 := hSw.cell cqb8 id; have ecqb9 := hSw.cell cqb9 id; go_simp <;> with_reducible rfl)
  try simp only [Act.put, List.setIfInBounds_toArray, List.set_cons_zero, List.set_cons_succ]
  refine wpAnyH_take (i := 2) (oi := { dst := some 7, op := Go.Op.unOp Go.UnOp.not 4 (Go.Operand.tmp 6), type := 4, pos := "frag.go:83", after := #[{ on := 1, ground := Go.Ground.data }], guard := none }) (v := ?v3) rfl (by kernel_rfl) (by kernel_rfl) (by kernel_rfl) (fun _ _ _ h => h) (Or.inl ⟨by rfl, ?hy3⟩) (by assumption) ?rest3
  case hy3 => (intro w hSw; (try dsimp only at hSw); have ecpb0 := hSw.cell cpb0 id; have ecpb1 := hSw.cell cpb1 id; have ecpb2 := hSw.cell cpb2 id; have ecpb3 := hSw.cell cpb3 id; have ecpb4 := hSw.cell cpb4 id; have ecpb5 := hSw.cell cpb5 id; have ecpb6 := hSw.cell cpb6 id; have ecpb7 := hSw.cell cpb7 id; have ecpb8 := hSw.cell cpb8 id; have ecpb9 := hSw.cell cpb9 id; have ecqb0 := hSw.cell cqb0 id; have ecqb1 := hSw.cell cqb1 id; have ecqb2 := hSw.cell cqb2 id; have ecqb3 := hSw.cell cqb3 id; have ecqb4 := hSw.cell cqb4 id; have ecqb5 := hSw.cell cqb5 id; have ecqb6 := hSw.cell cqb6 id; have ecqb7 := hSw.cell cqb7 id; have ecqb8 := hSw.cell cqb8 id; have ecqb9 := hSw.cell cqb9 id; go_simp <;> with_reducible rfl)
  try simp only [Act.put, List.setIfInBounds_toArray, List.set_cons_zero, List.set_cons_succ]
  refine wpAnyH_take (i := 3) (oi := { dst := some 8, op := Go.Op.move (Go.Operand.tmp 7), type := 4, pos := "frag.go:83", after := #[{ on := 2, ground := Go.Ground.data }], guard := none }) (v := ?v4) rfl (by kernel_rfl) (by kernel_rfl) (by kernel_rfl) (fun _ _ _ h => h) (Or.inl ⟨by rfl, ?hy4⟩) (by assumption) ?rest4
  case hy4 => (intro w hSw; (try dsimp only at hSw); have ecpb0 := hSw.cell cpb0 id; have ecpb1 := hSw.cell cpb1 id; have ecpb2 := hSw.cell cpb2 id; have ecpb3 := hSw.cell cpb3 id; have ecpb4 := hSw.cell cpb4 id; have ecpb5 := hSw.cell cpb5 id; have ecpb6 := hSw.cell cpb6 id; have ecpb7 := hSw.cell cpb7 id; have ecpb8 := hSw.cell cpb8 id; have ecpb9 := hSw.cell cpb9 id; have ecqb0 := hSw.cell cqb0 id; have ecqb1 := hSw.cell cqb1 id; have ecqb2 := hSw.cell cqb2 id; have ecqb3 := hSw.cell cqb3 id; have ecqb4 := hSw.cell cqb4 id; have ecqb5 := hSw.cell cqb5 id; have ecqb6 := hSw.cell cqb6 id; have ecqb7 := hSw.cell cqb7 id; have ecqb8 := hSw.cell cqb8 id; have ecqb9 := hSw.cell cqb9 id; go_simp <;> with_reducible rfl)
  try simp only [Act.put, List.setIfInBounds_toArray, List.set_cons_zero, List.set_cons_succ]
  refine wpAnyH_take (i := 4) (oi := { dst := some 9, op := Go.Op.load 27 (Go.Operand.tmp 2), type := 27, pos := "frag.go:83", after := #[{ on := 3, ground := Go.Ground.guard }], guard := some (3, true) }) (v := undef) rfl (by kernel_rfl) (by kernel_rfl) (by kernel_rfl) (fun _ _ _ h => h) (Or.inr ⟨by rfl, rfl⟩) (by assumption) ?rest5
  try simp only [Act.put, List.setIfInBounds_toArray, List.set_cons_zero, List.set_cons_succ]
  refine wpAnyH_take (i := 5) (oi := { dst := some 10, op := Go.Op.call { callee := Go.Callee.value (Go.Operand.func 40), args := #[Go.Operand.tmp 9], argTypes := #[27] }, type := 3, pos := "frag.go:83", after := #[{ on := 4, ground := Go.Ground.data }, { on := 3, ground := Go.Ground.chain }, { on := 3, ground := Go.Ground.guard }], guard := some (3, true) }) (v := undef) rfl (by kernel_rfl) (by kernel_rfl) (by kernel_rfl) (fun _ _ _ h => h) (Or.inr ⟨by rfl, rfl⟩) (by assumption) ?rest6
  try simp only [Act.put, List.setIfInBounds_toArray, List.set_cons_zero, List.set_cons_succ]
  refine wpAnyH_take (i := 6) (oi := { dst := some 11, op := Go.Op.load 27 (Go.Operand.tmp 3), type := 27, pos := "frag.go:83", after := #[{ on := 3, ground := Go.Ground.guard }], guard := some (3, true) }) (v := undef) rfl (by kernel_rfl) (by kernel_rfl) (by kernel_rfl) (fun _ _ _ h => h) (Or.inr ⟨by rfl, rfl⟩) (by assumption) ?rest7
  try simp only [Act.put, List.setIfInBounds_toArray, List.set_cons_zero, List.set_cons_succ]
  refine wpAnyH_take (i := 7) (oi := { dst := some 12, op := Go.Op.call { callee := Go.Callee.value (Go.Operand.func 40), args := #[Go.Operand.tmp 11], argTypes := #[27] }, type := 3, pos := "frag.go:83", after := #[{ on := 6, ground := Go.Ground.data }, { on := 5, ground := Go.Ground.chain }, { on := 3, ground := Go.Ground.guard }], guard := some (3, true) }) (v := undef) rfl (by kernel_rfl) (by kernel_rfl) (by kernel_rfl) (fun _ _ _ h => h) (Or.inr ⟨by rfl, rfl⟩) (by assumption) ?rest8
  try simp only [Act.put, List.setIfInBounds_toArray, List.set_cons_zero, List.set_cons_succ]
  refine wpAnyH_take (i := 8) (oi := { dst := some 13, op := Go.Op.binOp Go.BinOp.gtr 3 (Go.Operand.tmp 10) (Go.Operand.tmp 12) 3, type := 4, pos := "frag.go:83", after := #[{ on := 5, ground := Go.Ground.data }, { on := 7, ground := Go.Ground.data }, { on := 3, ground := Go.Ground.guard }], guard := some (3, true) }) (v := undef) rfl (by kernel_rfl) (by kernel_rfl) (by kernel_rfl) (fun _ _ _ h => h) (Or.inr ⟨by rfl, rfl⟩) (by assumption) ?rest9
  try simp only [Act.put, List.setIfInBounds_toArray, List.set_cons_zero, List.set_cons_succ]
  refine wpAnyH_take (i := 9) (oi := { dst := some 14, op := Go.Op.move (Go.Operand.tmp 13), type := 4, pos := "frag.go:83", after := #[{ on := 8, ground := Go.Ground.data }, { on := 7, ground := Go.Ground.chain }, { on := 3, ground := Go.Ground.guard }], guard := some (3, true) }) (v := undef) rfl (by kernel_rfl) (by kernel_rfl) (by kernel_rfl) (fun _ _ _ h => h) (Or.inr ⟨by rfl, rfl⟩) (by assumption) ?rest10
  try simp only [Act.put, List.setIfInBounds_toArray, List.set_cons_zero, List.set_cons_succ]
  refine wpAnyH_take (i := 10) (oi := { dst := some 15, op := Go.Op.fieldAddr 27 (Go.Operand.tmp 2) 3, type := 0, pos := "frag.go:83", after := #[{ on := 9, ground := Go.Ground.guard }], guard := some (9, false) }) (v := undef) rfl (by kernel_rfl) (by kernel_rfl) (by kernel_rfl) (fun _ _ _ h => h) (Or.inr ⟨by rfl, rfl⟩) (by assumption) ?rest11
  try simp only [Act.put, List.setIfInBounds_toArray, List.set_cons_zero, List.set_cons_succ]
  refine wpAnyH_take (i := 11) (oi := { dst := some 16, op := Go.Op.load 4 (Go.Operand.tmp 15), type := 4, pos := "frag.go:83", after := #[{ on := 10, ground := Go.Ground.data }, { on := 9, ground := Go.Ground.guard }], guard := some (9, false) }) (v := undef) rfl (by kernel_rfl) (by kernel_rfl) (by kernel_rfl) (fun _ _ _ h => h) (Or.inr ⟨by rfl, rfl⟩) (by assumption) ?rest12
  try simp only [Act.put, List.setIfInBounds_toArray, List.set_cons_zero, List.set_cons_succ]
  refine wpAnyH_take (i := 12) (oi := { dst := some 17, op := Go.Op.unOp Go.UnOp.not 4 (Go.Operand.tmp 16), type := 4, pos := "frag.go:83", after := #[{ on := 11, ground := Go.Ground.data }, { on := 9, ground := Go.Ground.guard }], guard := some (9, false) }) (v := undef) rfl (by kernel_rfl) (by kernel_rfl) (by kernel_rfl) (fun _ _ _ h => h) (Or.inr ⟨by rfl, rfl⟩) (by assumption) ?rest13
  try simp only [Act.put, List.setIfInBounds_toArray, List.set_cons_zero, List.set_cons_succ]
  refine wpAnyH_take (i := 13) (oi := { dst := some 18, op := Go.Op.move (Go.Operand.tmp 17), type := 4, pos := "frag.go:83", after := #[{ on := 12, ground := Go.Ground.data }, { on := 9, ground := Go.Ground.chain }, { on := 9, ground := Go.Ground.guard }], guard := some (9, false) }) (v := undef) rfl (by kernel_rfl) (by kernel_rfl) (by kernel_rfl) (fun _ _ _ h => h) (Or.inr ⟨by rfl, rfl⟩) (by assumption) ?rest14
  try simp only [Act.put, List.setIfInBounds_toArray, List.set_cons_zero, List.set_cons_succ]
  refine wpAnyH_take (i := 14) (oi := { dst := some 19, op := Go.Op.load 27 (Go.Operand.tmp 2), type := 27, pos := "frag.go:83", after := #[{ on := 13, ground := Go.Ground.guard }], guard := some (13, true) }) (v := undef) rfl (by kernel_rfl) (by kernel_rfl) (by kernel_rfl) (fun _ _ _ h => h) (Or.inr ⟨by rfl, rfl⟩) (by assumption) ?rest15
  try simp only [Act.put, List.setIfInBounds_toArray, List.set_cons_zero, List.set_cons_succ]
  refine wpAnyH_take (i := 15) (oi := { dst := some 20, op := Go.Op.call { callee := Go.Callee.value (Go.Operand.func 40), args := #[Go.Operand.tmp 19], argTypes := #[27] }, type := 3, pos := "frag.go:83", after := #[{ on := 14, ground := Go.Ground.data }, { on := 13, ground := Go.Ground.chain }, { on := 13, ground := Go.Ground.guard }], guard := some (13, true) }) (v := undef) rfl (by kernel_rfl) (by kernel_rfl) (by kernel_rfl) (fun _ _ _ h => h) (Or.inr ⟨by rfl, rfl⟩) (by assumption) ?rest16
  try simp only [Act.put, List.setIfInBounds_toArray, List.set_cons_zero, List.set_cons_succ]
  refine wpAnyH_take (i := 16) (oi := { dst := some 21, op := Go.Op.load 27 (Go.Operand.tmp 3), type := 27, pos := "frag.go:83", after := #[{ on := 13, ground := Go.Ground.guard }], guard := some (13, true) }) (v := undef) rfl (by kernel_rfl) (by kernel_rfl) (by kernel_rfl) (fun _ _ _ h => h) (Or.inr ⟨by rfl, rfl⟩) (by assumption) ?rest17
  try simp only [Act.put, List.setIfInBounds_toArray, List.set_cons_zero, List.set_cons_succ]
  refine wpAnyH_take (i := 17) (oi := { dst := some 22, op := Go.Op.call { callee := Go.Callee.value (Go.Operand.func 40), args := #[Go.Operand.tmp 21], argTypes := #[27] }, type := 3, pos := "frag.go:83", after := #[{ on := 16, ground := Go.Ground.data }, { on := 15, ground := Go.Ground.chain }, { on := 13, ground := Go.Ground.guard }], guard := some (13, true) }) (v := undef) rfl (by kernel_rfl) (by kernel_rfl) (by kernel_rfl) (fun _ _ _ h => h) (Or.inr ⟨by rfl, rfl⟩) (by assumption) ?rest18
  try simp only [Act.put, List.setIfInBounds_toArray, List.set_cons_zero, List.set_cons_succ]
  refine wpAnyH_take (i := 18) (oi := { dst := some 23, op := Go.Op.binOp Go.BinOp.neq 3 (Go.Operand.tmp 20) (Go.Operand.tmp 22) 3, type := 4, pos := "frag.go:83", after := #[{ on := 15, ground := Go.Ground.data }, { on := 17, ground := Go.Ground.data }, { on := 13, ground := Go.Ground.guard }], guard := some (13, true) }) (v := undef) rfl (by kernel_rfl) (by kernel_rfl) (by kernel_rfl) (fun _ _ _ h => h) (Or.inr ⟨by rfl, rfl⟩) (by assumption) ?rest19
  try simp only [Act.put, List.setIfInBounds_toArray, List.set_cons_zero, List.set_cons_succ]
  refine wpAnyH_take (i := 19) (oi := { dst := some 24, op := Go.Op.pick (Go.Operand.tmp 18) (Go.Operand.tmp 23) (Go.Operand.const (Go.Value.bool false)), type := 4, pos := "frag.go:83", after := #[{ on := 13, ground := Go.Ground.data }, { on := 18, ground := Go.Ground.data }, { on := 9, ground := Go.Ground.guard }], guard := some (9, false) }) (v := undef) rfl (by kernel_rfl) (by kernel_rfl) (by kernel_rfl) (fun _ _ _ h => h) (Or.inr ⟨by rfl, rfl⟩) (by assumption) ?rest20
  try simp only [Act.put, List.setIfInBounds_toArray, List.set_cons_zero, List.set_cons_succ]
  refine wpAnyH_take (i := 20) (oi := { dst := some 25, op := Go.Op.pick (Go.Operand.tmp 14) (Go.Operand.const (Go.Value.bool true)) (Go.Operand.tmp 24), type := 4, pos := "frag.go:83", after := #[{ on := 9, ground := Go.Ground.data }, { on := 19, ground := Go.Ground.data }, { on := 3, ground := Go.Ground.guard }], guard := some (3, true) }) (v := undef) rfl (by kernel_rfl) (by kernel_rfl) (by kernel_rfl) (fun _ _ _ h => h) (Or.inr ⟨by rfl, rfl⟩) (by assumption) ?rest21
  try simp only [Act.put, List.setIfInBounds_toArray, List.set_cons_zero, List.set_cons_succ]
  refine wpAnyH_take (i := 21) (oi := { dst := some 26, op := Go.Op.pick (Go.Operand.tmp 8) (Go.Operand.tmp 25) (Go.Operand.const (Go.Value.bool false)), type := 4, pos := "frag.go:83", after := #[{ on := 3, ground := Go.Ground.data }, { on := 20, ground := Go.Ground.data }], guard := none }) (v := ?v22) rfl (by kernel_rfl) (by kernel_rfl) (by kernel_rfl) (fun _ _ _ h => h) (Or.inl ⟨by rfl, ?hy22⟩) (by assumption) ?rest22
  case hy22 => (intro w hSw; (try dsimp only at hSw); have ecpb0 := hSw.cell cpb0 id; have ecpb1 := hSw.cell cpb1 id; have ecpb2 := hSw.cell cpb2 id; have ecpb3 := hSw.cell cpb3 id; have ecpb4 := hSw.cell cpb4 id; have ecpb5 := hSw.cell cpb5 id; have ecpb6 := hSw.cell cpb6 id; have ecpb7 := hSw.cell cpb7 id; have ecpb8 := hSw.cell cpb8 id; have ecpb9 := hSw.cell cpb9 id; have ecqb0 := hSw.cell cqb0 id; have ecqb1 := hSw.cell cqb1 id; have ecqb2 := hSw.cell cqb2 id; have ecqb3 := hSw.cell cqb3 id; have ecqb4 := hSw.cell cqb4 id; have ecqb5 := hSw.cell cqb5 id; have ecqb6 := hSw.cell cqb6 id; have ecqb7 := hSw.cell cqb7 id; have ecqb8 := hSw.cell cqb8 id; have ecqb9 := hSw.cell cqb9 id; go_simp <;> with_reducible rfl)
  try simp only [Act.put, List.setIfInBounds_toArray, List.set_cons_zero, List.set_cons_succ]
  refine wpAnyH_take (i := 22) (oi := { dst := some 4, op := Go.Op.assign (Go.Operand.tmp 26), type := 4, pos := "frag.go:83", after := #[{ on := 21, ground := Go.Ground.data }, { on := 17, ground := Go.Ground.chain }, { on := 0, ground := Go.Ground.phase }, { on := 1, ground := Go.Ground.phase }, { on := 2, ground := Go.Ground.phase }, { on := 3, ground := Go.Ground.phase }, { on := 4, ground := Go.Ground.phase }, { on := 5, ground := Go.Ground.phase }, { on := 6, ground := Go.Ground.phase }, { on := 7, ground := Go.Ground.phase }, { on := 8, ground := Go.Ground.phase }, { on := 9, ground := Go.Ground.phase }, { on := 10, ground := Go.Ground.phase }, { on := 11, ground := Go.Ground.phase }, { on := 12, ground := Go.Ground.phase }, { on := 13, ground := Go.Ground.phase }, { on := 14, ground := Go.Ground.phase }, { on := 15, ground := Go.Ground.phase }, { on := 16, ground := Go.Ground.phase }, { on := 17, ground := Go.Ground.phase }, { on := 18, ground := Go.Ground.phase }, { on := 19, ground := Go.Ground.phase }, { on := 20, ground := Go.Ground.phase }, { on := 21, ground := Go.Ground.phase }], guard := none }) (v := ?v23) rfl (by kernel_rfl) (by kernel_rfl) (by kernel_rfl) (fun _ _ _ h => h) (Or.inl ⟨by rfl, ?hy23⟩) (by assumption) ?rest23
  case hy23 => (intro w hSw; (try dsimp only at hSw); have ecpb0 := hSw.cell cpb0 id; have ecpb1 := hSw.cell cpb1 id; have ecpb2 := hSw.cell cpb2 id; have ecpb3 := hSw.cell cpb3 id; have ecpb4 := hSw.cell cpb4 id; have ecpb5 := hSw.cell cpb5 id; have ecpb6 := hSw.cell cpb6 id; have ecpb7 := hSw.cell cpb7 id; have ecpb8 := hSw.cell cpb8 id; have ecpb9 := hSw.cell cpb9 id; have ecqb0 := hSw.cell cqb0 id; have ecqb1 := hSw.cell cqb1 id; have ecqb2 := hSw.cell cqb2 id; have ecqb3 := hSw.cell cqb3 id; have ecqb4 := hSw.cell cqb4 id; have ecqb5 := hSw.cell cqb5 id; have ecqb6 := hSw.cell cqb6 id; have ecqb7 := hSw.cell cqb7 id; have ecqb8 := hSw.cell cqb8 id; have ecqb9 := hSw.cell cqb9 id; go_simp <;> with_reducible rfl)
  try simp only [Act.put, List.setIfInBounds_toArray, List.set_cons_zero, List.set_cons_succ]
  refine wpAnyH_done (by kernel_rfl) ?_ _
  go_wp2_with fail
  go_ret
  exact ⟨rfl, (HX_w1.out.trans HX_w2.out).trans hS0⟩
set_option maxRecDepth 100000 in
set_option maxHeartbeats 4000000 in
theorem past_2 (p q : Pk) (A B : Option Addr) (c d : Nat) (w : World) (h1 : ∀ w, Calls Tryd.prog 40 #[pkv p (.slice A p.b.length c)] w fun e w' => e = .returned (.int .i64 p.en) ∧ Ex (fun _ => False) w w') (h2 : ∀ w, Calls Tryd.prog 40 #[pkv q (.slice B q.b.length d)] w fun e w' => e = .returned (.int .i64 q.en) ∧ Ex (fun _ => False) w w') (hq : q.mf = false) (h : q.en < p.en) :
    Calls Tryd.prog 42 #[pkv p (.slice A p.b.length c), pkv q (.slice B q.b.length d)] w fun e w' => e = .returned (.bool true) ∧ Ex (fun _ => False) w w' := by
  obtain ⟨X, hX⟩ : ∃ X, p.en = X := ⟨_, rfl⟩
  obtain ⟨Y, hY⟩ : ∃ Y, q.en = Y := ⟨_, rfl⟩
  simp only [hX] at *
  simp only [hY] at *
  obtain ⟨xtos, xid, xdf, xmf, xoff, xttl, xpr, xsrc, xdst, xb⟩ := p
  obtain ⟨ytos, yid, ydf, ymf, yoff, yttl, ypr, ysrc, ydst, yb⟩ := q
  have H1 := Lib.hid h1
  have H2 := Lib.hid h2
  clear h1 h2 hX hY
  have hq2 : ymf = false := hq
  clear hq
  subst hq2
  show Calls Tryd.prog 42 #[.agg #[.int .u8 xtos, .int .u16 xid, .bool xdf, .bool xmf, .int .i64 xoff, .int .u8 xttl, .int .u8 xpr, .int .u32 xsrc, .int .u32 xdst, .slice A xb.length c], .agg #[.int .u8 ytos, .int .u16 yid, .bool ydf, .bool false, .int .i64 yoff, .int .u8 yttl, .int .u8 ypr, .int .u32 ysrc, .int .u32 ydst, .slice B yb.length d]] w _
  go_enter Tryd.func42, Tryd.ntmps42
  go_upto_region 1 with fail
  have hx : Ex (fun _ => False) w (w.alloc (.cells #[.int .u8 xtos, .int .u16 xid, .bool xdf, .bool xmf, .int .i64 xoff, .int .u8 xttl, .int .u8 xpr, .int .u32 xsrc, .int .u32 xdst, .slice A xb.length c] 27)) := (Ex.refl _ w).alloc _
  have hb : (w.alloc (.cells #[.int .u8 xtos, .int .u16 xid, .bool xdf, .bool xmf, .int .i64 xoff, .int .u8 xttl, .int .u8 xpr, .int .u32 xsrc, .int .u32 xdst, .slice A xb.length c] 27)).heap[w.heap.size]? = some (.cells #[.int .u8 xtos, .int .u16 xid, .bool xdf, .bool xmf, .int .i64 xoff, .int .u8 xttl, .int .u8 xpr, .int .u32 xsrc, .int .u32 xdst, .slice A xb.length c] 27) := heap_alloc_new w _
  have hs1 : (w.alloc (.cells #[.int .u8 xtos, .int .u16 xid, .bool xdf, .bool xmf, .int .i64 xoff, .int .u8 xttl, .int .u8 xpr, .int .u32 xsrc, .int .u32 xdst, .slice A xb.length c] 27)).heap.size = w.heap.size + 1 := by simp
  obtain ⟨pb, hpb⟩ : ∃ pb, pb = w.heap.size := ⟨_, rfl⟩
  have hb_pb : w.heap.size ≤ pb := by omega
  rw [← hpb] at hb hs1 
  try simp only [← hpb]
  generalize w.alloc (.cells #[.int .u8 xtos, .int .u16 xid, .bool xdf, .bool xmf, .int .i64 xoff, .int .u8 xttl, .int .u8 xpr, .int .u32 xsrc, .int .u32 xdst, .slice A xb.length c] 27) = w1 at hx hb  hs1 ⊢
  try simp only [← hs1]
  clear hs1
  clear hpb
  have HX_w1 := Lib.hid hx
  clear hx
  have B_pb := Lib.hid hb
  clear hb
  have hx : Ex (fun _ => False) w1 (w1.alloc (.cells #[.int .u8 ytos, .int .u16 yid, .bool ydf, .bool false, .int .i64 yoff, .int .u8 yttl, .int .u8 ypr, .int .u32 ysrc, .int .u32 ydst, .slice B yb.length d] 27)) := (Ex.refl _ w1).alloc _
  have hb : (w1.alloc (.cells #[.int .u8 ytos, .int .u16 yid, .bool ydf, .bool false, .int .i64 yoff, .int .u8 yttl, .int .u8 ypr, .int .u32 ysrc, .int .u32 ydst, .slice B yb.length d] 27)).heap[w1.heap.size]? = some (.cells #[.int .u8 ytos, .int .u16 yid, .bool ydf, .bool false, .int .i64 yoff, .int .u8 yttl, .int .u8 ypr, .int .u32 ysrc, .int .u32 ydst, .slice B yb.length d] 27) := heap_alloc_new w1 _
  obtain ⟨qb, hqb⟩ : ∃ qb, qb = w1.heap.size := ⟨_, rfl⟩
  have hb_qb : w1.heap.size ≤ qb := by omega
  rw [← hqb] at hb
  try simp only [← hqb]
  generalize w1.alloc (.cells #[.int .u8 ytos, .int .u16 yid, .bool ydf, .bool false, .int .i64 yoff, .int .u8 yttl, .int .u8 ypr, .int .u32 ysrc, .int .u32 ydst, .slice B yb.length d] 27) = w2 at hx hb ⊢
  clear hqb
  have HX_w2 := Lib.hid hx
  clear hx
  have B_qb := Lib.hid hb
  clear hb
  replace B_pb := Lib.hid ((HX_w2.out.block pb (row_lt B_pb.out) id).trans B_pb.out)
  have cpb0 := row_cell (k := 0) (v := .int .u8 xtos) B_pb.out rfl
  have cpb1 := row_cell (k := 1) (v := .int .u16 xid) B_pb.out rfl
  have cpb2 := row_cell (k := 2) (v := .bool xdf) B_pb.out rfl
  have cpb3 := row_cell (k := 3) (v := .bool xmf) B_pb.out rfl
  have cpb4 := row_cell (k := 4) (v := .int .i64 xoff) B_pb.out rfl
  have cpb5 := row_cell (k := 5) (v := .int .u8 xttl) B_pb.out rfl
  have cpb6 := row_cell (k := 6) (v := .int .u8 xpr) B_pb.out rfl
  have cpb7 := row_cell (k := 7) (v := .int .u32 xsrc) B_pb.out rfl
  have cpb8 := row_cell (k := 8) (v := .int .u32 xdst) B_pb.out rfl
  have cpb9 := row_cell (k := 9) (v := .slice A xb.length c) B_pb.out rfl
  have cqb0 := row_cell (k := 0) (v := .int .u8 ytos) B_qb.out rfl
  have cqb1 := row_cell (k := 1) (v := .int .u16 yid) B_qb.out rfl
  have cqb2 := row_cell (k := 2) (v := .bool ydf) B_qb.out rfl
  have cqb3 := row_cell (k := 3) (v := .bool false) B_qb.out rfl
  have cqb4 := row_cell (k := 4) (v := .int .i64 yoff) B_qb.out rfl
  have cqb5 := row_cell (k := 5) (v := .int .u8 yttl) B_qb.out rfl
  have cqb6 := row_cell (k := 6) (v := .int .u8 ypr) B_qb.out rfl
  have cqb7 := row_cell (k := 7) (v := .int .u32 ysrc) B_qb.out rfl
  have cqb8 := row_cell (k := 8) (v := .int .u32 ydst) B_qb.out rfl
  have cqb9 := row_cell (k := 9) (v := .slice B yb.length d) B_qb.out rfl
  have hS0 : Ex (fun _ => False) w2 w2.drew := (Ex.refl _ w2).drew
  refine wp_region_held_drew (S := fun W => Ex (fun _ => False) w2 W) (by kernel_rfl) hS0 (fun _ => ?_)
  refine wpAnyH_take (i := 0) (oi := { dst := some 5, op := Go.Op.fieldAddr 27 (Go.Operand.tmp 3) 3, type := 0, pos := "frag.go:83", after := #[], guard := none }) (v := ?v24) rfl (by kernel_rfl) (by kernel_rfl) (by kernel_rfl) (fun _ _ _ h => h) (Or.inl ⟨by rfl, ?hy24⟩) (by assumption) ?rest24
  case hy24 => (intro w hSw; (try dsimp only at hSw); have ecpb0 := hSw.cell cpb0 id; have ecpb1 := hSw.cell cpb1 id; have ecpb2 := hSw.cell cpb2 id; have ecpb3 := hSw.cell cpb3 id; have ecpb4 := hSw.cell cpb4 id; have ecpb5 := hSw.cell cpb5 id; have ecpb6 := hSw.cell cpb6 id; have ecpb7 := hSw.cell cpb7 id; have ecpb8 := hSw.cell cpb8 id; have ecpb9 := hSw.cell cpb9 id; have ecqb0 := hSw.cell cqb0 id; have ecqb1 := hSw.cell cqb1 id; have ecqb2 := hSw.cell cqb2 id; have ecqb3 := hSw.cell cqb3 id; have ecqb4 := hSw.cell cqb4 id; have ecqb5 := hSw.cell cqb5 id; have ecqb6 := hSw.cell cqb6 id; have ecqb7 := hSw.cell cqb7 id; have ecqb8 := hSw.cell cqb8 id; have ecqb9 := hSw.cell cqb9 id; go_simp <;> with_reducible rfl)
  try simp only [Act.put, List.setIfInBounds_toArray, List.set_cons_zero, List.set_cons_succ]
  refine wpAnyH_take (i := 1) (oi := { dst := some 6, op := Go.Op.load 4 (Go.Operand.tmp 5), type := 4, pos := "frag.go:83", after := #[{ on := 0, ground := Go.Ground.data }], guard := none }) (v := ?v25) rfl (by kernel_rfl) (by kernel_rfl) (by kernel_rfl) (fun _ _ _ h => h) (Or.inl ⟨by rfl, ?hy25⟩) (by assumption) ?rest25
  case hy25 => (intro w hSw; (try dsimp only at hSw); have ecpb0 := hSw.cell cpb0 id; have ecpb1 := hSw.cell cpb1 id; have ecpb2 := hSw.cell cpb2 id; have ecpb3 := hSw.cell cpb3 id; have ecpb4 := hSw.cell cpb4 id; have ecpb5 := hSw.cell cpb5 id; have ecpb6 := hSw.cell cpb6 id; have ecpb7 := hSw.cell cpb7 id; have ecpb8 := hSw.cell cpb8 id; have ecpb9 := hSw.cell cpb9 id; have ecqb0 := hSw.cell cqb0 id; have ecqb1 := hSw.cell cqb1 id; have ecqb2 := hSw.cell cqb2 id; have ecqb3 := hSw.cell cqb3 id; have ecqb4 := hSw.cell cqb4 id; have ecqb5 := hSw.cell cqb5 id; have ecqb6 := hSw.cell cqb6 id; have ecqb7 := hSw.cell cqb7 id; have ecqb8 := hSw.cell cqb8 id; have ecqb9 := hSw.cell cqb9 id; go_simp <;> with_reducible rfl)
  try simp only [Act.put, List.setIfInBounds_toArray, List.set_cons_zero, List.set_cons_succ]
  refine wpAnyH_take (i := 2) (oi := { dst := some 7, op := Go.Op.unOp Go.UnOp.not 4 (Go.Operand.tmp 6), type := 4, pos := "frag.go:83", after := #[{ on := 1, ground := Go.Ground.data }], guard := none }) (v := ?v26) rfl (by kernel_rfl) (by kernel_rfl) (by kernel_rfl) (fun _ _ _ h => h) (Or.inl ⟨by rfl, ?hy26⟩) (by assumption) ?rest26
  case hy26 => (intro w hSw; (try dsimp only at hSw); have ecpb0 := hSw.cell cpb0 id; have ecpb1 := hSw.cell cpb1 id; have ecpb2 := hSw.cell cpb2 id; have ecpb3 := hSw.cell cpb3 id; have ecpb4 := hSw.cell cpb4 id; have ecpb5 := hSw.cell cpb5 id; have ecpb6 := hSw.cell cpb6 id; have ecpb7 := hSw.cell cpb7 id; have ecpb8 := hSw.cell cpb8 id; have ecpb9 := hSw.cell cpb9 id; have ecqb0 := hSw.cell cqb0 id; have ecqb1 := hSw.cell cqb1 id; have ecqb2 := hSw.cell cqb2 id; have ecqb3 := hSw.cell cqb3 id; have ecqb4 := hSw.cell cqb4 id; have ecqb5 := hSw.cell cqb5 id; have ecqb6 := hSw.cell cqb6 id; have ecqb7 := hSw.cell cqb7 id; have ecqb8 := hSw.cell cqb8 id; have ecqb9 := hSw.cell cqb9 id; go_simp <;> with_reducible rfl)
  try simp only [Act.put, List.setIfInBounds_toArray, List.set_cons_zero, List.set_cons_succ]
  refine wpAnyH_take (i := 3) (oi := { dst := some 8, op := Go.Op.move (Go.Operand.tmp 7), type := 4, pos := "frag.go:83", after := #[{ on := 2, ground := Go.Ground.data }], guard := none }) (v := ?v27) rfl (by kernel_rfl) (by kernel_rfl) (by kernel_rfl) (fun _ _ _ h => h) (Or.inl ⟨by rfl, ?hy27⟩) (by assumption) ?rest27
  case hy27 => (intro w hSw; (try dsimp only at hSw); have ecpb0 := hSw.cell cpb0 id; have ecpb1 := hSw.cell cpb1 id; have ecpb2 := hSw.cell cpb2 id; have ecpb3 := hSw.cell cpb3 id; have ecpb4 := hSw.cell cpb4 id; have ecpb5 := hSw.cell cpb5 id; have ecpb6 := hSw.cell cpb6 id; have ecpb7 := hSw.cell cpb7 id; have ecpb8 := hSw.cell cpb8 id; have ecpb9 := hSw.cell cpb9 id; have ecqb0 := hSw.cell cqb0 id; have ecqb1 := hSw.cell cqb1 id; have ecqb2 := hSw.cell cqb2 id; have ecqb3 := hSw.cell cqb3 id; have ecqb4 := hSw.cell cqb4 id; have ecqb5 := hSw.cell cqb5 id; have ecqb6 := hSw.cell cqb6 id; have ecqb7 := hSw.cell cqb7 id; have ecqb8 := hSw.cell cqb8 id; have ecqb9 := hSw.cell cqb9 id; go_simp <;> with_reducible rfl)
  try simp only [Act.put, List.setIfInBounds_toArray, List.set_cons_zero, List.set_cons_succ]
  refine wpAnyH_take (i := 4) (oi := { dst := some 9, op := Go.Op.load 27 (Go.Operand.tmp 2), type := 27, pos := "frag.go:83", after := #[{ on := 3, ground := Go.Ground.guard }], guard := some (3, true) }) (v := ?v28) rfl (by kernel_rfl) (by kernel_rfl) (by kernel_rfl) (fun _ _ _ h => h) (Or.inl ⟨by rfl, ?hy28⟩) (by assumption) ?rest28
  case hy28 => (intro w hSw; (try dsimp only at hSw); have ecpb0 := hSw.cell cpb0 id; have ecpb1 := hSw.cell cpb1 id; have ecpb2 := hSw.cell cpb2 id; have ecpb3 := hSw.cell cpb3 id; have ecpb4 := hSw.cell cpb4 id; have ecpb5 := hSw.cell cpb5 id; have ecpb6 := hSw.cell cpb6 id; have ecpb7 := hSw.cell cpb7 id; have ecpb8 := hSw.cell cpb8 id; have ecpb9 := hSw.cell cpb9 id; have ecqb0 := hSw.cell cqb0 id; have ecqb1 := hSw.cell cqb1 id; have ecqb2 := hSw.cell cqb2 id; have ecqb3 := hSw.cell cqb3 id; have ecqb4 := hSw.cell cqb4 id; have ecqb5 := hSw.cell cqb5 id; have ecqb6 := hSw.cell cqb6 id; have ecqb7 := hSw.cell cqb7 id; have ecqb8 := hSw.cell cqb8 id; have ecqb9 := hSw.cell cqb9 id; go_simp <;> with_reducible rfl)
  try simp only [Act.put, List.setIfInBounds_toArray, List.set_cons_zero, List.set_cons_succ]
  refine wpAnyH_take (i := 6) (oi := { dst := some 11, op := Go.Op.load 27 (Go.Operand.tmp 3), type := 27, pos := "frag.go:83", after := #[{ on := 3, ground := Go.Ground.guard }], guard := some (3, true) }) (v := ?v29) rfl (by kernel_rfl) (by kernel_rfl) (by kernel_rfl) (fun _ _ _ h => h) (Or.inl ⟨by rfl, ?hy29⟩) (by assumption) ?rest29
  case hy29 => (intro w hSw; (try dsimp only at hSw); have ecpb0 := hSw.cell cpb0 id; have ecpb1 := hSw.cell cpb1 id; have ecpb2 := hSw.cell cpb2 id; have ecpb3 := hSw.cell cpb3 id; have ecpb4 := hSw.cell cpb4 id; have ecpb5 := hSw.cell cpb5 id; have ecpb6 := hSw.cell cpb6 id; have ecpb7 := hSw.cell cpb7 id; have ecpb8 := hSw.cell cpb8 id; have ecpb9 := hSw.cell cpb9 id; have ecqb0 := hSw.cell cqb0 id; have ecqb1 := hSw.cell cqb1 id; have ecqb2 := hSw.cell cqb2 id; have ecqb3 := hSw.cell cqb3 id; have ecqb4 := hSw.cell cqb4 id; have ecqb5 := hSw.cell cqb5 id; have ecqb6 := hSw.cell cqb6 id; have ecqb7 := hSw.cell cqb7 id; have ecqb8 := hSw.cell cqb8 id; have ecqb9 := hSw.cell cqb9 id; go_simp <;> with_reducible rfl)
  try simp only [Act.put, List.setIfInBounds_toArray, List.set_cons_zero, List.set_cons_succ]
  refine wpAnyH_ready (rs := [5]) (by kernel_rfl) (by simp) ?_
  refine AllReadyH.cons (o := { dst := some 10, op := Go.Op.call { callee := Go.Callee.value (Go.Operand.func 40), args := #[Go.Operand.tmp 9], argTypes := #[27] }, type := 3, pos := "frag.go:83", after := #[{ on := 4, ground := Go.Ground.data }, { on := 3, ground := Go.Ground.chain }, { on := 3, ground := Go.Ground.guard }], guard := some (3, true) }) rfl (fun K hK => ?_) AllReadyH.nil
  go_simp
  refine (H1.out _).mono ?_
  rintro e wn ⟨rfl, hx⟩
  have hS1 : Ex (fun _ => False) w2 wn := Ex.trans (by assumption) hx
  clear hx
  refine hK.out _ _ hS1 (fun _ => ?_)
  refine wpAnyH_ready (rs := [7]) (by kernel_rfl) (by simp) ?_
  refine AllReadyH.cons (o := { dst := some 12, op := Go.Op.call { callee := Go.Callee.value (Go.Operand.func 40), args := #[Go.Operand.tmp 11], argTypes := #[27] }, type := 3, pos := "frag.go:83", after := #[{ on := 6, ground := Go.Ground.data }, { on := 5, ground := Go.Ground.chain }, { on := 3, ground := Go.Ground.guard }], guard := some (3, true) }) rfl (fun K hK => ?_) AllReadyH.nil
  go_simp
  refine (H2.out _).mono ?_
  rintro e wn ⟨rfl, hx⟩
  have hS1 : Ex (fun _ => False) w2 wn := Ex.trans (by assumption) hx
  clear hx
  refine hK.out _ _ hS1 (fun _ => ?_)
  refine wpAnyH_take (i := 8) (oi := { dst := some 13, op := Go.Op.binOp Go.BinOp.gtr 3 (Go.Operand.tmp 10) (Go.Operand.tmp 12) 3, type := 4, pos := "frag.go:83", after := #[{ on := 5, ground := Go.Ground.data }, { on := 7, ground := Go.Ground.data }, { on := 3, ground := Go.Ground.guard }], guard := some (3, true) }) (v := ?v30) rfl (by kernel_rfl) (by kernel_rfl) (by kernel_rfl) (fun _ _ _ h => h) (Or.inl ⟨by rfl, ?hy30⟩) (by assumption) ?rest30
  case hy30 => (intro w hSw; (try dsimp only at hSw); have ecpb0 := hSw.cell cpb0 id; have ecpb1 := hSw.cell cpb1 id; have ecpb2 := hSw.cell cpb2 id; have ecpb3 := hSw.cell cpb3 id; have ecpb4 := hSw.cell cpb4 id; have ecpb5 := hSw.cell cpb5 id; have ecpb6 := hSw.cell cpb6 id; have ecpb7 := hSw.cell cpb7 id; have ecpb8 := hSw.cell cpb8 id; have ecpb9 := hSw.cell cpb9 id; have ecqb0 := hSw.cell cqb0 id; have ecqb1 := hSw.cell cqb1 id; have ecqb2 := hSw.cell cqb2 id; have ecqb3 := hSw.cell cqb3 id; have ecqb4 := hSw.cell cqb4 id; have ecqb5 := hSw.cell cqb5 id; have ecqb6 := hSw.cell cqb6 id; have ecqb7 := hSw.cell cqb7 id; have ecqb8 := hSw.cell cqb8 id; have ecqb9 := hSw.cell cqb9 id; go_simp <;> with_reducible rfl)
  try simp only [Act.put, List.setIfInBounds_toArray, List.set_cons_zero, List.set_cons_succ]
  refine wpAnyH_take (i := 9) (oi := { dst := some 14, op := Go.Op.move (Go.Operand.tmp 13), type := 4, pos := "frag.go:83", after := #[{ on := 8, ground := Go.Ground.data }, { on := 7, ground := Go.Ground.chain }, { on := 3, ground := Go.Ground.guard }], guard := some (3, true) }) (v := ?v31) rfl (by kernel_rfl) (by kernel_rfl) (by kernel_rfl) (fun _ _ _ h => h) (Or.inl ⟨by rfl, ?hy31⟩) (by assumption) ?rest31
  case hy31 => (intro w hSw; (try dsimp only at hSw); have ecpb0 := hSw.cell cpb0 id; have ecpb1 := hSw.cell cpb1 id; have ecpb2 := hSw.cell cpb2 id; have ecpb3 := hSw.cell cpb3 id; have ecpb4 := hSw.cell cpb4 id; have ecpb5 := hSw.cell cpb5 id; have ecpb6 := hSw.cell cpb6 id; have ecpb7 := hSw.cell cpb7 id; have ecpb8 := hSw.cell cpb8 id; have ecpb9 := hSw.cell cpb9 id; have ecqb0 := hSw.cell cqb0 id; have ecqb1 := hSw.cell cqb1 id; have ecqb2 := hSw.cell cqb2 id; have ecqb3 := hSw.cell cqb3 id; have ecqb4 := hSw.cell cqb4 id; have ecqb5 := hSw.cell cqb5 id; have ecqb6 := hSw.cell cqb6 id; have ecqb7 := hSw.cell cqb7 id; have ecqb8 := hSw.cell cqb8 id; have ecqb9 := hSw.cell cqb9 id; go_simp <;> with_reducible rfl)
  try simp only [Act.put, List.setIfInBounds_toArray, List.set_cons_zero, List.set_cons_succ]
  refine wpAnyH_take (i := 10) (oi := { dst := some 15, op := Go.Op.fieldAddr 27 (Go.Operand.tmp 2) 3, type := 0, pos := "frag.go:83", after := #[{ on := 9, ground := Go.Ground.guard }], guard := some (9, false) }) (v := undef) rfl (by kernel_rfl) (by kernel_rfl) (by kernel_rfl) (fun _ _ _ h => h) (Or.inr ⟨by rfl, rfl⟩) (by assumption) ?rest32
  try simp only [Act.put, List.setIfInBounds_toArray, List.set_cons_zero, List.set_cons_succ]
  refine wpAnyH_take (i := 11) (oi := { dst := some 16, op := Go.Op.load 4 (Go.Operand.tmp 15), type := 4, pos := "frag.go:83", after := #[{ on := 10, ground := Go.Ground.data }, { on := 9, ground := Go.Ground.guard }], guard := some (9, false) }) (v := undef) rfl (by kernel_rfl) (by kernel_rfl) (by kernel_rfl) (fun _ _ _ h => h) (Or.inr ⟨by rfl, rfl⟩) (by assumption) ?rest33
  try simp only [Act.put, List.setIfInBounds_toArray, List.set_cons_zero, List.set_cons_succ]
  refine wpAnyH_take (i := 12) (oi := { dst := some 17, op := Go.Op.unOp Go.UnOp.not 4 (Go.Operand.tmp 16), type := 4, pos := "frag.go:83", after := #[{ on := 11, ground := Go.Ground.data }, { on := 9, ground := Go.Ground.guard }], guard := some (9, false) }) (v := undef) rfl (by kernel_rfl) (by kernel_rfl) (by kernel_rfl) (fun _ _ _ h => h) (Or.inr ⟨by rfl, rfl⟩) (by assumption) ?rest34
  try simp only [Act.put, List.setIfInBounds_toArray, List.set_cons_zero, List.set_cons_succ]
  refine wpAnyH_take (i := 13) (oi := { dst := some 18, op := Go.Op.move (Go.Operand.tmp 17), type := 4, pos := "frag.go:83", after := #[{ on := 12, ground := Go.Ground.data }, { on := 9, ground := Go.Ground.chain }, { on := 9, ground := Go.Ground.guard }], guard := some (9, false) }) (v := undef) rfl (by kernel_rfl) (by kernel_rfl) (by kernel_rfl) (fun _ _ _ h => h) (Or.inr ⟨by rfl, rfl⟩) (by assumption) ?rest35
  try simp only [Act.put, List.setIfInBounds_toArray, List.set_cons_zero, List.set_cons_succ]
  refine wpAnyH_take (i := 14) (oi := { dst := some 19, op := Go.Op.load 27 (Go.Operand.tmp 2), type := 27, pos := "frag.go:83", after := #[{ on := 13, ground := Go.Ground.guard }], guard := some (13, true) }) (v := undef) rfl (by kernel_rfl) (by kernel_rfl) (by kernel_rfl) (fun _ _ _ h => h) (Or.inr ⟨by rfl, rfl⟩) (by assumption) ?rest36
  try simp only [Act.put, List.setIfInBounds_toArray, List.set_cons_zero, List.set_cons_succ]
  refine wpAnyH_take (i := 15) (oi := { dst := some 20, op := Go.Op.call { callee := Go.Callee.value (Go.Operand.func 40), args := #[Go.Operand.tmp 19], argTypes := #[27] }, type := 3, pos := "frag.go:83", after := #[{ on := 14, ground := Go.Ground.data }, { on := 13, ground := Go.Ground.chain }, { on := 13, ground := Go.Ground.guard }], guard := some (13, true) }) (v := undef) rfl (by kernel_rfl) (by kernel_rfl) (by kernel_rfl) (fun _ _ _ h => h) (Or.inr ⟨by rfl, rfl⟩) (by assumption) ?rest37
  try simp only [Act.put, List.setIfInBounds_toArray, List.set_cons_zero, List.set_cons_succ]
  refine wpAnyH_take (i := 16) (oi := { dst := some 21, op := Go.Op.load 27 (Go.Operand.tmp 3), type := 27, pos := "frag.go:83", after := #[{ on := 13, ground := Go.Ground.guard }], guard := some (13, true) }) (v := undef) rfl (by kernel_rfl) (by kernel_rfl) (by kernel_rfl) (fun _ _ _ h => h) (Or.inr ⟨by rfl, rfl⟩) (by assumption) ?rest38
  try simp only [Act.put, List.setIfInBounds_toArray, List.set_cons_zero, List.set_cons_succ]
  refine wpAnyH_take (i := 17) (oi := { dst := some 22, op := Go.Op.call { callee := Go.Callee.value (Go.Operand.func 40), args := #[Go.Operand.tmp 21], argTypes := #[27] }, type := 3, pos := "frag.go:83", after := #[{ on := 16, ground := Go.Ground.data }, { on := 15, ground := Go.Ground.chain }, { on := 13, ground := Go.Ground.guard }], guard := some (13, true) }) (v := undef) rfl (by kernel_rfl) (by kernel_rfl) (by kernel_rfl) (fun _ _ _ h => h) (Or.inr ⟨by rfl, rfl⟩) (by assumption) ?rest39
  try simp only [Act.put, List.setIfInBounds_toArray, List.set_cons_zero, List.set_cons_succ]
  refine wpAnyH_take (i := 18) (oi := { dst := some 23, op := Go.Op.binOp Go.BinOp.neq 3 (Go.Operand.tmp 20) (Go.Operand.tmp 22) 3, type := 4, pos := "frag.go:83", after := #[{ on := 15, ground := Go.Ground.data }, { on := 17, ground := Go.Ground.data }, { on := 13, ground := Go.Ground.guard }], guard := some (13, true) }) (v := undef) rfl (by kernel_rfl) (by kernel_rfl) (by kernel_rfl) (fun _ _ _ h => h) (Or.inr ⟨by rfl, rfl⟩) (by assumption) ?rest40
  try simp only [Act.put, List.setIfInBounds_toArray, List.set_cons_zero, List.set_cons_succ]
  refine wpAnyH_take (i := 19) (oi := { dst := some 24, op := Go.Op.pick (Go.Operand.tmp 18) (Go.Operand.tmp 23) (Go.Operand.const (Go.Value.bool false)), type := 4, pos := "frag.go:83", after := #[{ on := 13, ground := Go.Ground.data }, { on := 18, ground := Go.Ground.data }, { on := 9, ground := Go.Ground.guard }], guard := some (9, false) }) (v := undef) rfl (by kernel_rfl) (by kernel_rfl) (by kernel_rfl) (fun _ _ _ h => h) (Or.inr ⟨by rfl, rfl⟩) (by assumption) ?rest41
  try simp only [Act.put, List.setIfInBounds_toArray, List.set_cons_zero, List.set_cons_succ]
  refine wpAnyH_take (i := 20) (oi := { dst := some 25, op := Go.Op.pick (Go.Operand.tmp 14) (Go.Operand.const (Go.Value.bool true)) (Go.Operand.tmp 24), type := 4, pos := "frag.go:83", after := #[{ on := 9, ground := Go.Ground.data }, { on := 19, ground := Go.Ground.data }, { on := 3, ground := Go.Ground.guard }], guard := some (3, true) }) (v := ?v42) rfl (by kernel_rfl) (by kernel_rfl) (by kernel_rfl) (fun _ _ _ h => h) (Or.inl ⟨by rfl, ?hy42⟩) (by assumption) ?rest42
  case hy42 => (intro w hSw; (try dsimp only at hSw); have ecpb0 := hSw.cell cpb0 id; have ecpb1 := hSw.cell cpb1 id; have ecpb2 := hSw.cell cpb2 id; have ecpb3 := hSw.cell cpb3 id; have ecpb4 := hSw.cell cpb4 id; have ecpb5 := hSw.cell cpb5 id; have ecpb6 := hSw.cell cpb6 id; have ecpb7 := hSw.cell cpb7 id; have ecpb8 := hSw.cell cpb8 id; have ecpb9 := hSw.cell cpb9 id; have ecqb0 := hSw.cell cqb0 id; have ecqb1 := hSw.cell cqb1 id; have ecqb2 := hSw.cell cqb2 id; have ecqb3 := hSw.cell cqb3 id; have ecqb4 := hSw.cell cqb4 id; have ecqb5 := hSw.cell cqb5 id; have ecqb6 := hSw.cell cqb6 id; have ecqb7 := hSw.cell cqb7 id; have ecqb8 := hSw.cell cqb8 id; have ecqb9 := hSw.cell cqb9 id; go_simp <;> with_reducible rfl)
  try simp only [Act.put, List.setIfInBounds_toArray, List.set_cons_zero, List.set_cons_succ]
  refine wpAnyH_take (i := 21) (oi := { dst := some 26, op := Go.Op.pick (Go.Operand.tmp 8) (Go.Operand.tmp 25) (Go.Operand.const (Go.Value.bool false)), type := 4, pos := "frag.go:83", after := #[{ on := 3, ground := Go.Ground.data }, { on := 20, ground := Go.Ground.data }], guard := none }) (v := ?v43) rfl (by kernel_rfl) (by kernel_rfl) (by kernel_rfl) (fun _ _ _ h => h) (Or.inl ⟨by rfl, ?hy43⟩) (by assumption) ?rest43
  case hy43 => (intro w hSw; (try dsimp only at hSw); have ecpb0 := hSw.cell cpb0 id; have ecpb1 := hSw.cell cpb1 id; have ecpb2 := hSw.cell cpb2 id; have ecpb3 := hSw.cell cpb3 id; have ecpb4 := hSw.cell cpb4 id; have ecpb5 := hSw.cell cpb5 id; have ecpb6 := hSw.cell cpb6 id; have ecpb7 := hSw.cell cpb7 id; have ecpb8 := hSw.cell cpb8 id; have ecpb9 := hSw.cell cpb9 id; have ecqb0 := hSw.cell cqb0 id; have ecqb1 := hSw.cell cqb1 id; have ecqb2 := hSw.cell cqb2 id; have ecqb3 := hSw.cell cqb3 id; have ecqb4 := hSw.cell cqb4 id; have ecqb5 := hSw.cell cqb5 id; have ecqb6 := hSw.cell cqb6 id; have ecqb7 := hSw.cell cqb7 id; have ecqb8 := hSw.cell cqb8 id; have ecqb9 := hSw.cell cqb9 id; go_simp <;> with_reducible rfl)
  try simp only [Act.put, List.setIfInBounds_toArray, List.set_cons_zero, List.set_cons_succ]
  refine wpAnyH_take (i := 22) (oi := { dst := some 4, op := Go.Op.assign (Go.Operand.tmp 26), type := 4, pos := "frag.go:83", after := #[{ on := 21, ground := Go.Ground.data }, { on := 17, ground := Go.Ground.chain }, { on := 0, ground := Go.Ground.phase }, { on := 1, ground := Go.Ground.phase }, { on := 2, ground := Go.Ground.phase }, { on := 3, ground := Go.Ground.phase }, { on := 4, ground := Go.Ground.phase }, { on := 5, ground := Go.Ground.phase }, { on := 6, ground := Go.Ground.phase }, { on := 7, ground := Go.Ground.phase }, { on := 8, ground := Go.Ground.phase }, { on := 9, ground := Go.Ground.phase }, { on := 10, ground := Go.Ground.phase }, { on := 11, ground := Go.Ground.phase }, { on := 12, ground := Go.Ground.phase }, { on := 13, ground := Go.Ground.phase }, { on := 14, ground := Go.Ground.phase }, { on := 15, ground := Go.Ground.phase }, { on := 16, ground := Go.Ground.phase }, { on := 17, ground := Go.Ground.phase }, { on := 18, ground := Go.Ground.phase }, { on := 19, ground := Go.Ground.phase }, { on := 20, ground := Go.Ground.phase }, { on := 21, ground := Go.Ground.phase }], guard := none }) (v := ?v44) rfl (by kernel_rfl) (by kernel_rfl) (by kernel_rfl) (fun _ _ _ h => h) (Or.inl ⟨by rfl, ?hy44⟩) (by assumption) ?rest44
  case hy44 => (intro w hSw; (try dsimp only at hSw); have ecpb0 := hSw.cell cpb0 id; have ecpb1 := hSw.cell cpb1 id; have ecpb2 := hSw.cell cpb2 id; have ecpb3 := hSw.cell cpb3 id; have ecpb4 := hSw.cell cpb4 id; have ecpb5 := hSw.cell cpb5 id; have ecpb6 := hSw.cell cpb6 id; have ecpb7 := hSw.cell cpb7 id; have ecpb8 := hSw.cell cpb8 id; have ecpb9 := hSw.cell cpb9 id; have ecqb0 := hSw.cell cqb0 id; have ecqb1 := hSw.cell cqb1 id; have ecqb2 := hSw.cell cqb2 id; have ecqb3 := hSw.cell cqb3 id; have ecqb4 := hSw.cell cqb4 id; have ecqb5 := hSw.cell cqb5 id; have ecqb6 := hSw.cell cqb6 id; have ecqb7 := hSw.cell cqb7 id; have ecqb8 := hSw.cell cqb8 id; have ecqb9 := hSw.cell cqb9 id; go_simp <;> with_reducible rfl)
  try simp only [Act.put, List.setIfInBounds_toArray, List.set_cons_zero, List.set_cons_succ]
  refine wpAnyH_done (by kernel_rfl) ?_ _
  go_wp2_with fail
  go_ret
  exact ⟨rfl, (HX_w1.out.trans HX_w2.out).trans hS1⟩
set_option maxRecDepth 100000 in
set_option maxHeartbeats 4000000 in
theorem past_3 (p q : Pk) (A B : Option Addr) (c d : Nat) (w : World) (h1 : ∀ w, Calls Tryd.prog 40 #[pkv p (.slice A p.b.length c)] w fun e w' => e = .returned (.int .i64 p.en) ∧ Ex (fun _ => False) w w') (h2 : ∀ w, Calls Tryd.prog 40 #[pkv q (.slice B q.b.length d)] w fun e w' => e = .returned (.int .i64 q.en) ∧ Ex (fun _ => False) w w') (hq : q.mf = false) (h : ¬ q.en < p.en) (hp : p.mf = true) :
    Calls Tryd.prog 42 #[pkv p (.slice A p.b.length c), pkv q (.slice B q.b.length d)] w fun e w' => e = .returned (.bool false) ∧ Ex (fun _ => False) w w' := by
  obtain ⟨X, hX⟩ : ∃ X, p.en = X := ⟨_, rfl⟩
  obtain ⟨Y, hY⟩ : ∃ Y, q.en = Y := ⟨_, rfl⟩
  simp only [hX] at *
  simp only [hY] at *
  obtain ⟨xtos, xid, xdf, xmf, xoff, xttl, xpr, xsrc, xdst, xb⟩ := p
  obtain ⟨ytos, yid, ydf, ymf, yoff, yttl, ypr, ysrc, ydst, yb⟩ := q
  have H1 := Lib.hid h1
  have H2 := Lib.hid h2
  clear h1 h2 hX hY
  have hq2 : ymf = false := hq
  clear hq
  subst hq2
  have hp2 : xmf = true := hp
  clear hp
  subst hp2
  show Calls Tryd.prog 42 #[.agg #[.int .u8 xtos, .int .u16 xid, .bool xdf, .bool true, .int .i64 xoff, .int .u8 xttl, .int .u8 xpr, .int .u32 xsrc, .int .u32 xdst, .slice A xb.length c], .agg #[.int .u8 ytos, .int .u16 yid, .bool ydf, .bool false, .int .i64 yoff, .int .u8 yttl, .int .u8 ypr, .int .u32 ysrc, .int .u32 ydst, .slice B yb.length d]] w _
  go_enter Tryd.func42, Tryd.ntmps42
  go_upto_region 1 with fail
  have hx : Ex (fun _ => False) w (w.alloc (.cells #[.int .u8 xtos, .int .u16 xid, .bool xdf, .bool true, .int .i64 xoff, .int .u8 xttl, .int .u8 xpr, .int .u32 xsrc, .int .u32 xdst, .slice A xb.length c] 27)) := (Ex.refl _ w).alloc _
  have hb : (w.alloc (.cells #[.int .u8 xtos, .int .u16 xid, .bool xdf, .bool true, .int .i64 xoff, .int .u8 xttl, .int .u8 xpr, .int .u32 xsrc, .int .u32 xdst, .slice A xb.length c] 27)).heap[w.heap.size]? = some (.cells #[.int .u8 xtos, .int .u16 xid, .bool xdf, .bool true, .int .i64 xoff, .int .u8 xttl, .int .u8 xpr, .int .u32 xsrc, .int .u32 xdst, .slice A xb.length c] 27) := heap_alloc_new w _
  have hs1 : (w.alloc (.cells #[.int .u8 xtos, .int .u16 xid, .bool xdf, .bool true, .int .i64 xoff, .int .u8 xttl, .int .u8 xpr, .int .u32 xsrc, .int .u32 xdst, .slice A xb.length c] 27)).heap.size = w.heap.size + 1 := by simp
  obtain ⟨pb, hpb⟩ : ∃ pb, pb = w.heap.size := ⟨_, rfl⟩
  have hb_pb : w.heap.size ≤ pb := by omega
  rw [← hpb] at hb hs1 
  try simp only [← hpb]
  generalize w.alloc (.cells #[.int .u8 xtos, .int .u16 xid, .bool xdf, .bool true, .int .i64 xoff, .int .u8 xttl, .int .u8 xpr, .int .u32 xsrc, .int .u32 xdst, .slice A xb.length c] 27) = w1 at hx hb  hs1 ⊢
  try simp only [← hs1]
  clear hs1
  clear hpb
  have HX_w1 := Lib.hid hx
  clear hx
  have B_pb := Lib.hid hb
  clear hb
  have hx : Ex (fun _ => False) w1 (w1.alloc (.cells #[.int .u8 ytos, .int .u16 yid, .bool ydf, .bool false, .int .i64 yoff, .int .u8 yttl, .int .u8 ypr, .int .u32 ysrc, .int .u32 ydst, .slice B yb.length d] 27)) := (Ex.refl _ w1).alloc _
  have hb : (w1.alloc (.cells #[.int .u8 ytos, .int .u16 yid, .bool ydf, .bool false, .int .i64 yoff, .int .u8 yttl, .int .u8 ypr, .int .u32 ysrc, .int .u32 ydst, .slice B yb.length d] 27)).heap[w1.heap.size]? = some (.cells #[.int .u8 ytos, .int .u16 yid, .bool ydf, .bool false, .int .i64 yoff, .int .u8 yttl, .int .u8 ypr, .int .u32 ysrc, .int .u32 ydst, .slice B yb.length d] 27) := heap_alloc_new w1 _
  obtain ⟨qb, hqb⟩ : ∃ qb, qb = w1.heap.size := ⟨_, rfl⟩
  have hb_qb : w1.heap.size ≤ qb := by omega
  rw [← hqb] at hb
  try simp only [← hqb]
  generalize w1.alloc (.cells #[.int .u8 ytos, .int .u16 yid, .bool ydf, .bool false, .int .i64 yoff, .int .u8 yttl, .int .u8 ypr, .int .u32 ysrc, .int .u32 ydst, .slice B yb.length d] 27) = w2 at hx hb ⊢
  clear hqb
  have HX_w2 := Lib.hid hx
  clear hx
  have B_qb := Lib.hid hb
  clear hb
  replace B_pb := Lib.hid ((HX_w2.out.block pb (row_lt B_pb.out) id).trans B_pb.out)
  have cpb0 := row_cell (k := 0) (v := .int .u8 xtos) B_pb.out rfl
  have cpb1 := row_cell (k := 1) (v := .int .u16 xid) B_pb.out rfl
  have cpb2 := row_cell (k := 2) (v := .bool xdf) B_pb.out rfl
  have cpb3 := row_cell (k := 3) (v := .bool true) B_pb.out rfl
  have cpb4 := row_cell (k := 4) (v := .int .i64 xoff) B_pb.out rfl
  have cpb5 := row_cell (k := 5) (v := .int .u8 xttl) B_pb.out rfl
  have cpb6 := row_cell (k := 6) (v := .int .u8 xpr) B_pb.out rfl
  have cpb7 := row_cell (k := 7) (v := .int .u32 xsrc) B_pb.out rfl
  have cpb8 := row_cell (k := 8) (v := .int .u32 xdst) B_pb.out rfl
  have cpb9 := row_cell (k := 9) (v := .slice A xb.length c) B_pb.out rfl
  have cqb0 := row_cell (k := 0) (v := .int .u8 ytos) B_qb.out rfl
  have cqb1 := row_cell (k := 1) (v := .int .u16 yid) B_qb.out rfl
  have cqb2 := row_cell (k := 2) (v := .bool ydf) B_qb.out rfl
  have cqb3 := row_cell (k := 3) (v := .bool false) B_qb.out rfl
  have cqb4 := row_cell (k := 4) (v := .int .i64 yoff) B_qb.out rfl
  have cqb5 := row_cell (k := 5) (v := .int .u8 yttl) B_qb.out rfl
  have cqb6 := row_cell (k := 6) (v := .int .u8 ypr) B_qb.out rfl
  have cqb7 := row_cell (k := 7) (v := .int .u32 ysrc) B_qb.out rfl
  have cqb8 := row_cell (k := 8) (v := .int .u32 ydst) B_qb.out rfl
  have cqb9 := row_cell (k := 9) (v := .slice B yb.length d) B_qb.out rfl
  have hS0 : Ex (fun _ => False) w2 w2.drew := (Ex.refl _ w2).drew
  refine wp_region_held_drew (S := fun W => Ex (fun _ => False) w2 W) (by kernel_rfl) hS0 (fun _ => ?_)
  refine wpAnyH_take (i := 0) (oi := { dst := some 5, op := Go.Op.fieldAddr 27 (Go.Operand.tmp 3) 3, type := 0, pos := "frag.go:83", after := #[], guard := none }) (v := ?v45) rfl (by kernel_rfl) (by kernel_rfl) (by kernel_rfl) (fun _ _ _ h => h) (Or.inl ⟨by rfl, ?hy45⟩) (by assumption) ?rest45
  case hy45 => (intro w hSw; (try dsimp only at hSw); have ecpb0 := hSw.cell cpb0 id; have ecpb1 := hSw.cell cpb1 id; have ecpb2 := hSw.cell cpb2 id; have ecpb3 := hSw.cell cpb3 id; have ecpb4 := hSw.cell cpb4 id; have ecpb5 := hSw.cell cpb5 id; have ecpb6 := hSw.cell cpb6 id; have ecpb7 := hSw.cell cpb7 id; have ecpb8 := hSw.cell cpb8 id; have ecpb9 := hSw.cell cpb9 id; have ecqb0 := hSw.cell cqb0 id; have ecqb1 := hSw.cell cqb1 id; have ecqb2 := hSw.cell cqb2 id; have ecqb3 := hSw.cell cqb3 id; have ecqb4 := hSw.cell cqb4 id; have ecqb5 := hSw.cell cqb5 id; have ecqb6 := hSw.cell cqb6 id; have ecqb7 := hSw.cell cqb7 id; have ecqb8 := hSw.cell cqb8 id; have ecqb9 := hSw.cell cqb9 id; go_simp <;> with_reducible rfl)
  try simp only [Act.put, List.setIfInBounds_toArray, List.set_cons_zero, List.set_cons_succ]
  refine wpAnyH_take (i := 1) (oi := { dst := some 6, op := Go.Op.load 4 (Go.Operand.tmp 5), type := 4, pos := "frag.go:83", after := #[{ on := 0, ground := Go.Ground.data }], guard := none }) (v := ?v46) rfl (by kernel_rfl) (by kernel_rfl) (by kernel_rfl) (fun _ _ _ h => h) (Or.inl ⟨by rfl, ?hy46⟩) (by assumption) ?rest46
  case hy46 => (intro w hSw; (try dsimp only at hSw); have ecpb0 := hSw.cell cpb0 id; have ecpb1 := hSw.cell cpb1 id; have ecpb2 := hSw.cell cpb2 id; have ecpb3 := hSw.cell cpb3 id; have ecpb4 := hSw.cell cpb4 id; have ecpb5 := hSw.cell cpb5 id; have ecpb6 := hSw.cell cpb6 id; have ecpb7 := hSw.cell cpb7 id; have ecpb8 := hSw.cell cpb8 id; have ecpb9 := hSw.cell cpb9 id; have ecqb0 := hSw.cell cqb0 id; have ecqb1 := hSw.cell cqb1 id; have ecqb2 := hSw.cell cqb2 id; have ecqb3 := hSw.cell cqb3 id; have ecqb4 := hSw.cell cqb4 id; have ecqb5 := hSw.cell cqb5 id; have ecqb6 := hSw.cell cqb6 id; have ecqb7 := hSw.cell cqb7 id; have ecqb8 := hSw.cell cqb8 id; have ecqb9 := hSw.cell cqb9 id; go_simp <;> with_reducible rfl)
  try simp only [Act.put, List.setIfInBounds_toArray, List.set_cons_zero, List.set_cons_succ]
  refine wpAnyH_take (i := 2) (oi := { dst := some 7, op := Go.Op.unOp Go.UnOp.not 4 (Go.Operand.tmp 6), type := 4, pos := "frag.go:83", after := #[{ on := 1, ground := Go.Ground.data }], guard := none }) (v := ?v47) rfl (by kernel_rfl) (by kernel_rfl) (by kernel_rfl) (fun _ _ _ h => h) (Or.inl ⟨by rfl, ?hy47⟩) (by assumption) ?rest47
  case hy47 => (intro w hSw; (try dsimp only at hSw); have ecpb0 := hSw.cell cpb0 id; have ecpb1 := hSw.cell cpb1 id; have ecpb2 := hSw.cell cpb2 id; have ecpb3 := hSw.cell cpb3 id; have ecpb4 := hSw.cell cpb4 id; have ecpb5 := hSw.cell cpb5 id; have ecpb6 := hSw.cell cpb6 id; have ecpb7 := hSw.cell cpb7 id; have ecpb8 := hSw.cell cpb8 id; have ecpb9 := hSw.cell cpb9 id; have ecqb0 := hSw.cell cqb0 id; have ecqb1 := hSw.cell cqb1 id; have ecqb2 := hSw.cell cqb2 id; have ecqb3 := hSw.cell cqb3 id; have ecqb4 := hSw.cell cqb4 id; have ecqb5 := hSw.cell cqb5 id; have ecqb6 := hSw.cell cqb6 id; have ecqb7 := hSw.cell cqb7 id; have ecqb8 := hSw.cell cqb8 id; have ecqb9 := hSw.cell cqb9 id; go_simp <;> with_reducible rfl)
  try simp only [Act.put, List.setIfInBounds_toArray, List.set_cons_zero, List.set_cons_succ]
  refine wpAnyH_take (i := 3) (oi := { dst := some 8, op := Go.Op.move (Go.Operand.tmp 7), type := 4, pos := "frag.go:83", after := #[{ on := 2, ground := Go.Ground.data }], guard := none }) (v := ?v48) rfl (by kernel_rfl) (by kernel_rfl) (by kernel_rfl) (fun _ _ _ h => h) (Or.inl ⟨by rfl, ?hy48⟩) (by assumption) ?rest48
  case hy48 => (intro w hSw; (try dsimp only at hSw); have ecpb0 := hSw.cell cpb0 id; have ecpb1 := hSw.cell cpb1 id; have ecpb2 := hSw.cell cpb2 id; have ecpb3 := hSw.cell cpb3 id; have ecpb4 := hSw.cell cpb4 id; have ecpb5 := hSw.cell cpb5 id; have ecpb6 := hSw.cell cpb6 id; have ecpb7 := hSw.cell cpb7 id; have ecpb8 := hSw.cell cpb8 id; have ecpb9 := hSw.cell cpb9 id; have ecqb0 := hSw.cell cqb0 id; have ecqb1 := hSw.cell cqb1 id; have ecqb2 := hSw.cell cqb2 id; have ecqb3 := hSw.cell cqb3 id; have ecqb4 := hSw.cell cqb4 id; have ecqb5 := hSw.cell cqb5 id; have ecqb6 := hSw.cell cqb6 id; have ecqb7 := hSw.cell cqb7 id; have ecqb8 := hSw.cell cqb8 id; have ecqb9 := hSw.cell cqb9 id; go_simp <;> with_reducible rfl)
  try simp only [Act.put, List.setIfInBounds_toArray, List.set_cons_zero, List.set_cons_succ]
  refine wpAnyH_take (i := 4) (oi := { dst := some 9, op := Go.Op.load 27 (Go.Operand.tmp 2), type := 27, pos := "frag.go:83", after := #[{ on := 3, ground := Go.Ground.guard }], guard := some (3, true) }) (v := ?v49) rfl (by kernel_rfl) (by kernel_rfl) (by kernel_rfl) (fun _ _ _ h => h) (Or.inl ⟨by rfl, ?hy49⟩) (by assumption) ?rest49
  case hy49 => (intro w hSw; (try dsimp only at hSw); have ecpb0 := hSw.cell cpb0 id; have ecpb1 := hSw.cell cpb1 id; have ecpb2 := hSw.cell cpb2 id; have ecpb3 := hSw.cell cpb3 id; have ecpb4 := hSw.cell cpb4 id; have ecpb5 := hSw.cell cpb5 id; have ecpb6 := hSw.cell cpb6 id; have ecpb7 := hSw.cell cpb7 id; have ecpb8 := hSw.cell cpb8 id; have ecpb9 := hSw.cell cpb9 id; have ecqb0 := hSw.cell cqb0 id; have ecqb1 := hSw.cell cqb1 id; have ecqb2 := hSw.cell cqb2 id; have ecqb3 := hSw.cell cqb3 id; have ecqb4 := hSw.cell cqb4 id; have ecqb5 := hSw.cell cqb5 id; have ecqb6 := hSw.cell cqb6 id; have ecqb7 := hSw.cell cqb7 id; have ecqb8 := hSw.cell cqb8 id; have ecqb9 := hSw.cell cqb9 id; go_simp <;> with_reducible rfl)
  try simp only [Act.put, List.setIfInBounds_toArray, List.set_cons_zero, List.set_cons_succ]
  refine wpAnyH_take (i := 6) (oi := { dst := some 11, op := Go.Op.load 27 (Go.Operand.tmp 3), type := 27, pos := "frag.go:83", after := #[{ on := 3, ground := Go.Ground.guard }], guard := some (3, true) }) (v := ?v50) rfl (by kernel_rfl) (by kernel_rfl) (by kernel_rfl) (fun _ _ _ h => h) (Or.inl ⟨by rfl, ?hy50⟩) (by assumption) ?rest50
  case hy50 => (intro w hSw; (try dsimp only at hSw); have ecpb0 := hSw.cell cpb0 id; have ecpb1 := hSw.cell cpb1 id; have ecpb2 := hSw.cell cpb2 id; have ecpb3 := hSw.cell cpb3 id; have ecpb4 := hSw.cell cpb4 id; have ecpb5 := hSw.cell cpb5 id; have ecpb6 := hSw.cell cpb6 id; have ecpb7 := hSw.cell cpb7 id; have ecpb8 := hSw.cell cpb8 id; have ecpb9 := hSw.cell cpb9 id; have ecqb0 := hSw.cell cqb0 id; have ecqb1 := hSw.cell cqb1 id; have ecqb2 := hSw.cell cqb2 id; have ecqb3 := hSw.cell cqb3 id; have ecqb4 := hSw.cell cqb4 id; have ecqb5 := hSw.cell cqb5 id; have ecqb6 := hSw.cell cqb6 id; have ecqb7 := hSw.cell cqb7 id; have ecqb8 := hSw.cell cqb8 id; have ecqb9 := hSw.cell cqb9 id; go_simp <;> with_reducible rfl)
  try simp only [Act.put, List.setIfInBounds_toArray, List.set_cons_zero, List.set_cons_succ]
  refine wpAnyH_ready (rs := [5]) (by kernel_rfl) (by simp) ?_
  refine AllReadyH.cons (o := { dst := some 10, op := Go.Op.call { callee := Go.Callee.value (Go.Operand.func 40), args := #[Go.Operand.tmp 9], argTypes := #[27] }, type := 3, pos := "frag.go:83", after := #[{ on := 4, ground := Go.Ground.data }, { on := 3, ground := Go.Ground.chain }, { on := 3, ground := Go.Ground.guard }], guard := some (3, true) }) rfl (fun K hK => ?_) AllReadyH.nil
  go_simp
  refine (H1.out _).mono ?_
  rintro e wn ⟨rfl, hx⟩
  have hS1 : Ex (fun _ => False) w2 wn := Ex.trans (by assumption) hx
  clear hx
  refine hK.out _ _ hS1 (fun _ => ?_)
  refine wpAnyH_ready (rs := [7]) (by kernel_rfl) (by simp) ?_
  refine AllReadyH.cons (o := { dst := some 12, op := Go.Op.call { callee := Go.Callee.value (Go.Operand.func 40), args := #[Go.Operand.tmp 11], argTypes := #[27] }, type := 3, pos := "frag.go:83", after := #[{ on := 6, ground := Go.Ground.data }, { on := 5, ground := Go.Ground.chain }, { on := 3, ground := Go.Ground.guard }], guard := some (3, true) }) rfl (fun K hK => ?_) AllReadyH.nil
  go_simp
  refine (H2.out _).mono ?_
  rintro e wn ⟨rfl, hx⟩
  have hS1 : Ex (fun _ => False) w2 wn := Ex.trans (by assumption) hx
  clear hx
  refine hK.out _ _ hS1 (fun _ => ?_)
  refine wpAnyH_take (i := 8) (oi := { dst := some 13, op := Go.Op.binOp Go.BinOp.gtr 3 (Go.Operand.tmp 10) (Go.Operand.tmp 12) 3, type := 4, pos := "frag.go:83", after := #[{ on := 5, ground := Go.Ground.data }, { on := 7, ground := Go.Ground.data }, { on := 3, ground := Go.Ground.guard }], guard := some (3, true) }) (v := ?v51) rfl (by kernel_rfl) (by kernel_rfl) (by kernel_rfl) (fun _ _ _ h => h) (Or.inl ⟨by rfl, ?hy51⟩) (by assumption) ?rest51
  case hy51 => (intro w hSw; (try dsimp only at hSw); have ecpb0 := hSw.cell cpb0 id; have ecpb1 := hSw.cell cpb1 id; have ecpb2 := hSw.cell cpb2 id; have ecpb3 := hSw.cell cpb3 id; have ecpb4 := hSw.cell cpb4 id; have ecpb5 := hSw.cell cpb5 id; have ecpb6 := hSw.cell cpb6 id; have ecpb7 := hSw.cell cpb7 id; have ecpb8 := hSw.cell cpb8 id; have ecpb9 := hSw.cell cpb9 id; have ecqb0 := hSw.cell cqb0 id; have ecqb1 := hSw.cell cqb1 id; have ecqb2 := hSw.cell cqb2 id; have ecqb3 := hSw.cell cqb3 id; have ecqb4 := hSw.cell cqb4 id; have ecqb5 := hSw.cell cqb5 id; have ecqb6 := hSw.cell cqb6 id; have ecqb7 := hSw.cell cqb7 id; have ecqb8 := hSw.cell cqb8 id; have ecqb9 := hSw.cell cqb9 id; go_simp <;> with_reducible rfl)
  try simp only [Act.put, List.setIfInBounds_toArray, List.set_cons_zero, List.set_cons_succ]
  refine wpAnyH_take (i := 9) (oi := { dst := some 14, op := Go.Op.move (Go.Operand.tmp 13), type := 4, pos := "frag.go:83", after := #[{ on := 8, ground := Go.Ground.data }, { on := 7, ground := Go.Ground.chain }, { on := 3, ground := Go.Ground.guard }], guard := some (3, true) }) (v := ?v52) rfl (by kernel_rfl) (by kernel_rfl) (by kernel_rfl) (fun _ _ _ h => h) (Or.inl ⟨by rfl, ?hy52⟩) (by assumption) ?rest52
  case hy52 => (intro w hSw; (try dsimp only at hSw); have ecpb0 := hSw.cell cpb0 id; have ecpb1 := hSw.cell cpb1 id; have ecpb2 := hSw.cell cpb2 id; have ecpb3 := hSw.cell cpb3 id; have ecpb4 := hSw.cell cpb4 id; have ecpb5 := hSw.cell cpb5 id; have ecpb6 := hSw.cell cpb6 id; have ecpb7 := hSw.cell cpb7 id; have ecpb8 := hSw.cell cpb8 id; have ecpb9 := hSw.cell cpb9 id; have ecqb0 := hSw.cell cqb0 id; have ecqb1 := hSw.cell cqb1 id; have ecqb2 := hSw.cell cqb2 id; have ecqb3 := hSw.cell cqb3 id; have ecqb4 := hSw.cell cqb4 id; have ecqb5 := hSw.cell cqb5 id; have ecqb6 := hSw.cell cqb6 id; have ecqb7 := hSw.cell cqb7 id; have ecqb8 := hSw.cell cqb8 id; have ecqb9 := hSw.cell cqb9 id; go_simp <;> with_reducible rfl)
  try simp only [Act.put, List.setIfInBounds_toArray, List.set_cons_zero, List.set_cons_succ]
  refine wpAnyH_take (i := 10) (oi := { dst := some 15, op := Go.Op.fieldAddr 27 (Go.Operand.tmp 2) 3, type := 0, pos := "frag.go:83", after := #[{ on := 9, ground := Go.Ground.guard }], guard := some (9, false) }) (v := ?v53) rfl (by kernel_rfl) (by kernel_rfl) (by kernel_rfl) (fun _ _ _ h => h) (Or.inl ⟨by rfl, ?hy53⟩) (by assumption) ?rest53
  case hy53 => (intro w hSw; (try dsimp only at hSw); have ecpb0 := hSw.cell cpb0 id; have ecpb1 := hSw.cell cpb1 id; have ecpb2 := hSw.cell cpb2 id; have ecpb3 := hSw.cell cpb3 id; have ecpb4 := hSw.cell cpb4 id; have ecpb5 := hSw.cell cpb5 id; have ecpb6 := hSw.cell cpb6 id; have ecpb7 := hSw.cell cpb7 id; have ecpb8 := hSw.cell cpb8 id; have ecpb9 := hSw.cell cpb9 id; have ecqb0 := hSw.cell cqb0 id; have ecqb1 := hSw.cell cqb1 id; have ecqb2 := hSw.cell cqb2 id; have ecqb3 := hSw.cell cqb3 id; have ecqb4 := hSw.cell cqb4 id; have ecqb5 := hSw.cell cqb5 id; have ecqb6 := hSw.cell cqb6 id; have ecqb7 := hSw.cell cqb7 id; have ecqb8 := hSw.cell cqb8 id; have ecqb9 := hSw.cell cqb9 id; go_simp <;> with_reducible rfl)
  try simp only [Act.put, List.setIfInBounds_toArray, List.set_cons_zero, List.set_cons_succ]
  refine wpAnyH_take (i := 11) (oi := { dst := some 16, op := Go.Op.load 4 (Go.Operand.tmp 15), type := 4, pos := "frag.go:83", after := #[{ on := 10, ground := Go.Ground.data }, { on := 9, ground := Go.Ground.guard }], guard := some (9, false) }) (v := ?v54) rfl (by kernel_rfl) (by kernel_rfl) (by kernel_rfl) (fun _ _ _ h => h) (Or.inl ⟨by rfl, ?hy54⟩) (by assumption) ?rest54
  case hy54 => (intro w hSw; (try dsimp only at hSw); have ecpb0 := hSw.cell cpb0 id; have ecpb1 := hSw.cell cpb1 id; have ecpb2 := hSw.cell cpb2 id; have ecpb3 := hSw.cell cpb3 id; have ecpb4 := hSw.cell cpb4 id; have ecpb5 := hSw.cell cpb5 id; have ecpb6 := hSw.cell cpb6 id; have ecpb7 := hSw.cell cpb7 id; have ecpb8 := hSw.cell cpb8 id; have ecpb9 := hSw.cell cpb9 id; have ecqb0 := hSw.cell cqb0 id; have ecqb1 := hSw.cell cqb1 id; have ecqb2 := hSw.cell cqb2 id; have ecqb3 := hSw.cell cqb3 id; have ecqb4 := hSw.cell cqb4 id; have ecqb5 := hSw.cell cqb5 id; have ecqb6 := hSw.cell cqb6 id; have ecqb7 := hSw.cell cqb7 id; have ecqb8 := hSw.cell cqb8 id; have ecqb9 := hSw.cell cqb9 id; go_simp <;> with_reducible rfl)
  try simp only [Act.put, List.setIfInBounds_toArray, List.set_cons_zero, List.set_cons_succ]
  refine wpAnyH_take (i := 12) (oi := { dst := some 17, op := Go.Op.unOp Go.UnOp.not 4 (Go.Operand.tmp 16), type := 4, pos := "frag.go:83", after := #[{ on := 11, ground := Go.Ground.data }, { on := 9, ground := Go.Ground.guard }], guard := some (9, false) }) (v := ?v55) rfl (by kernel_rfl) (by kernel_rfl) (by kernel_rfl) (fun _ _ _ h => h) (Or.inl ⟨by rfl, ?hy55⟩) (by assumption) ?rest55
  case hy55 => (intro w hSw; (try dsimp only at hSw); have ecpb0 := hSw.cell cpb0 id; have ecpb1 := hSw.cell cpb1 id; have ecpb2 := hSw.cell cpb2 id; have ecpb3 := hSw.cell cpb3 id; have ecpb4 := hSw.cell cpb4 id; have ecpb5 := hSw.cell cpb5 id; have ecpb6 := hSw.cell cpb6 id; have ecpb7 := hSw.cell cpb7 id; have ecpb8 := hSw.cell cpb8 id; have ecpb9 := hSw.cell cpb9 id; have ecqb0 := hSw.cell cqb0 id; have ecqb1 := hSw.cell cqb1 id; have ecqb2 := hSw.cell cqb2 id; have ecqb3 := hSw.cell cqb3 id; have ecqb4 := hSw.cell cqb4 id; have ecqb5 := hSw.cell cqb5 id; have ecqb6 := hSw.cell cqb6 id; have ecqb7 := hSw.cell cqb7 id; have ecqb8 := hSw.cell cqb8 id; have ecqb9 := hSw.cell cqb9 id; go_simp <;> with_reducible rfl)
  try simp only [Act.put, List.setIfInBounds_toArray, List.set_cons_zero, List.set_cons_succ]
  refine wpAnyH_take (i := 13) (oi := { dst := some 18, op := Go.Op.move (Go.Operand.tmp 17), type := 4, pos := "frag.go:83", after := #[{ on := 12, ground := Go.Ground.data }, { on := 9, ground := Go.Ground.chain }, { on := 9, ground := Go.Ground.guard }], guard := some (9, false) }) (v := ?v56) rfl (by kernel_rfl) (by kernel_rfl) (by kernel_rfl) (fun _ _ _ h => h) (Or.inl ⟨by rfl, ?hy56⟩) (by assumption) ?rest56
  case hy56 => (intro w hSw; (try dsimp only at hSw); have ecpb0 := hSw.cell cpb0 id; have ecpb1 := hSw.cell cpb1 id; have ecpb2 := hSw.cell cpb2 id; have ecpb3 := hSw.cell cpb3 id; have ecpb4 := hSw.cell cpb4 id; have ecpb5 := hSw.cell cpb5 id; have ecpb6 := hSw.cell cpb6 id; have ecpb7 := hSw.cell cpb7 id; have ecpb8 := hSw.cell cpb8 id; have ecpb9 := hSw.cell cpb9 id; have ecqb0 := hSw.cell cqb0 id; have ecqb1 := hSw.cell cqb1 id; have ecqb2 := hSw.cell cqb2 id; have ecqb3 := hSw.cell cqb3 id; have ecqb4 := hSw.cell cqb4 id; have ecqb5 := hSw.cell cqb5 id; have ecqb6 := hSw.cell cqb6 id; have ecqb7 := hSw.cell cqb7 id; have ecqb8 := hSw.cell cqb8 id; have ecqb9 := hSw.cell cqb9 id; go_simp <;> with_reducible rfl)
  try simp only [Act.put, List.setIfInBounds_toArray, List.set_cons_zero, List.set_cons_succ]
  refine wpAnyH_take (i := 14) (oi := { dst := some 19, op := Go.Op.load 27 (Go.Operand.tmp 2), type := 27, pos := "frag.go:83", after := #[{ on := 13, ground := Go.Ground.guard }], guard := some (13, true) }) (v := undef) rfl (by kernel_rfl) (by kernel_rfl) (by kernel_rfl) (fun _ _ _ h => h) (Or.inr ⟨by rfl, rfl⟩) (by assumption) ?rest57
  try simp only [Act.put, List.setIfInBounds_toArray, List.set_cons_zero, List.set_cons_succ]
  refine wpAnyH_take (i := 15) (oi := { dst := some 20, op := Go.Op.call { callee := Go.Callee.value (Go.Operand.func 40), args := #[Go.Operand.tmp 19], argTypes := #[27] }, type := 3, pos := "frag.go:83", after := #[{ on := 14, ground := Go.Ground.data }, { on := 13, ground := Go.Ground.chain }, { on := 13, ground := Go.Ground.guard }], guard := some (13, true) }) (v := undef) rfl (by kernel_rfl) (by kernel_rfl) (by kernel_rfl) (fun _ _ _ h => h) (Or.inr ⟨by rfl, rfl⟩) (by assumption) ?rest58
  try simp only [Act.put, List.setIfInBounds_toArray, List.set_cons_zero, List.set_cons_succ]
  refine wpAnyH_take (i := 16) (oi := { dst := some 21, op := Go.Op.load 27 (Go.Operand.tmp 3), type := 27, pos := "frag.go:83", after := #[{ on := 13, ground := Go.Ground.guard }], guard := some (13, true) }) (v := undef) rfl (by kernel_rfl) (by kernel_rfl) (by kernel_rfl) (fun _ _ _ h => h) (Or.inr ⟨by rfl, rfl⟩) (by assumption) ?rest59
  try simp only [Act.put, List.setIfInBounds_toArray, List.set_cons_zero, List.set_cons_succ]
  refine wpAnyH_take (i := 17) (oi := { dst := some 22, op := Go.Op.call { callee := Go.Callee.value (Go.Operand.func 40), args := #[Go.Operand.tmp 21], argTypes := #[27] }, type := 3, pos := "frag.go:83", after := #[{ on := 16, ground := Go.Ground.data }, { on := 15, ground := Go.Ground.chain }, { on := 13, ground := Go.Ground.guard }], guard := some (13, true) }) (v := undef) rfl (by kernel_rfl) (by kernel_rfl) (by kernel_rfl) (fun _ _ _ h => h) (Or.inr ⟨by rfl, rfl⟩) (by assumption) ?rest60
  try simp only [Act.put, List.setIfInBounds_toArray, List.set_cons_zero, List.set_cons_succ]
  refine wpAnyH_take (i := 18) (oi := { dst := some 23, op := Go.Op.binOp Go.BinOp.neq 3 (Go.Operand.tmp 20) (Go.Operand.tmp 22) 3, type := 4, pos := "frag.go:83", after := #[{ on := 15, ground := Go.Ground.data }, { on := 17, ground := Go.Ground.data }, { on := 13, ground := Go.Ground.guard }], guard := some (13, true) }) (v := undef) rfl (by kernel_rfl) (by kernel_rfl) (by kernel_rfl) (fun _ _ _ h => h) (Or.inr ⟨by rfl, rfl⟩) (by assumption) ?rest61
  try simp only [Act.put, List.setIfInBounds_toArray, List.set_cons_zero, List.set_cons_succ]
  refine wpAnyH_take (i := 19) (oi := { dst := some 24, op := Go.Op.pick (Go.Operand.tmp 18) (Go.Operand.tmp 23) (Go.Operand.const (Go.Value.bool false)), type := 4, pos := "frag.go:83", after := #[{ on := 13, ground := Go.Ground.data }, { on := 18, ground := Go.Ground.data }, { on := 9, ground := Go.Ground.guard }], guard := some (9, false) }) (v := ?v62) rfl (by kernel_rfl) (by kernel_rfl) (by kernel_rfl) (fun _ _ _ h => h) (Or.inl ⟨by rfl, ?hy62⟩) (by assumption) ?rest62
  case hy62 => (intro w hSw; (try dsimp only at hSw); have ecpb0 := hSw.cell cpb0 id; have ecpb1 := hSw.cell cpb1 id; have ecpb2 := hSw.cell cpb2 id; have ecpb3 := hSw.cell cpb3 id; have ecpb4 := hSw.cell cpb4 id; have ecpb5 := hSw.cell cpb5 id; have ecpb6 := hSw.cell cpb6 id; have ecpb7 := hSw.cell cpb7 id; have ecpb8 := hSw.cell cpb8 id; have ecpb9 := hSw.cell cpb9 id; have ecqb0 := hSw.cell cqb0 id; have ecqb1 := hSw.cell cqb1 id; have ecqb2 := hSw.cell cqb2 id; have ecqb3 := hSw.cell cqb3 id; have ecqb4 := hSw.cell cqb4 id; have ecqb5 := hSw.cell cqb5 id; have ecqb6 := hSw.cell cqb6 id; have ecqb7 := hSw.cell cqb7 id; have ecqb8 := hSw.cell cqb8 id; have ecqb9 := hSw.cell cqb9 id; go_simp <;> with_reducible rfl)
  try simp only [Act.put, List.setIfInBounds_toArray, List.set_cons_zero, List.set_cons_succ]
  refine wpAnyH_take (i := 20) (oi := { dst := some 25, op := Go.Op.pick (Go.Operand.tmp 14) (Go.Operand.const (Go.Value.bool true)) (Go.Operand.tmp 24), type := 4, pos := "frag.go:83", after := #[{ on := 9, ground := Go.Ground.data }, { on := 19, ground := Go.Ground.data }, { on := 3, ground := Go.Ground.guard }], guard := some (3, true) }) (v := ?v63) rfl (by kernel_rfl) (by kernel_rfl) (by kernel_rfl) (fun _ _ _ h => h) (Or.inl ⟨by rfl, ?hy63⟩) (by assumption) ?rest63
  case hy63 => (intro w hSw; (try dsimp only at hSw); have ecpb0 := hSw.cell cpb0 id; have ecpb1 := hSw.cell cpb1 id; have ecpb2 := hSw.cell cpb2 id; have ecpb3 := hSw.cell cpb3 id; have ecpb4 := hSw.cell cpb4 id; have ecpb5 := hSw.cell cpb5 id; have ecpb6 := hSw.cell cpb6 id; have ecpb7 := hSw.cell cpb7 id; have ecpb8 := hSw.cell cpb8 id; have ecpb9 := hSw.cell cpb9 id; have ecqb0 := hSw.cell cqb0 id; have ecqb1 := hSw.cell cqb1 id; have ecqb2 := hSw.cell cqb2 id; have ecqb3 := hSw.cell cqb3 id; have ecqb4 := hSw.cell cqb4 id; have ecqb5 := hSw.cell cqb5 id; have ecqb6 := hSw.cell cqb6 id; have ecqb7 := hSw.cell cqb7 id; have ecqb8 := hSw.cell cqb8 id; have ecqb9 := hSw.cell cqb9 id; go_simp <;> with_reducible rfl)
  try simp only [Act.put, List.setIfInBounds_toArray, List.set_cons_zero, List.set_cons_succ]
  refine wpAnyH_take (i := 21) (oi := { dst := some 26, op := Go.Op.pick (Go.Operand.tmp 8) (Go.Operand.tmp 25) (Go.Operand.const (Go.Value.bool false)), type := 4, pos := "frag.go:83", after := #[{ on := 3, ground := Go.Ground.data }, { on := 20, ground := Go.Ground.data }], guard := none }) (v := ?v64) rfl (by kernel_rfl) (by kernel_rfl) (by kernel_rfl) (fun _ _ _ h => h) (Or.inl ⟨by rfl, ?hy64⟩) (by assumption) ?rest64
  case hy64 => (intro w hSw; (try dsimp only at hSw); have ecpb0 := hSw.cell cpb0 id; have ecpb1 := hSw.cell cpb1 id; have ecpb2 := hSw.cell cpb2 id; have ecpb3 := hSw.cell cpb3 id; have ecpb4 := hSw.cell cpb4 id; have ecpb5 := hSw.cell cpb5 id; have ecpb6 := hSw.cell cpb6 id; have ecpb7 := hSw.cell cpb7 id; have ecpb8 := hSw.cell cpb8 id; have ecpb9 := hSw.cell cpb9 id; have ecqb0 := hSw.cell cqb0 id; have ecqb1 := hSw.cell cqb1 id; have ecqb2 := hSw.cell cqb2 id; have ecqb3 := hSw.cell cqb3 id; have ecqb4 := hSw.cell cqb4 id; have ecqb5 := hSw.cell cqb5 id; have ecqb6 := hSw.cell cqb6 id; have ecqb7 := hSw.cell cqb7 id; have ecqb8 := hSw.cell cqb8 id; have ecqb9 := hSw.cell cqb9 id; go_simp <;> with_reducible rfl)
  try simp only [Act.put, List.setIfInBounds_toArray, List.set_cons_zero, List.set_cons_succ]
  refine wpAnyH_take (i := 22) (oi := { dst := some 4, op := Go.Op.assign (Go.Operand.tmp 26), type := 4, pos := "frag.go:83", after := #[{ on := 21, ground := Go.Ground.data }, { on := 17, ground := Go.Ground.chain }, { on := 0, ground := Go.Ground.phase }, { on := 1, ground := Go.Ground.phase }, { on := 2, ground := Go.Ground.phase }, { on := 3, ground := Go.Ground.phase }, { on := 4, ground := Go.Ground.phase }, { on := 5, ground := Go.Ground.phase }, { on := 6, ground := Go.Ground.phase }, { on := 7, ground := Go.Ground.phase }, { on := 8, ground := Go.Ground.phase }, { on := 9, ground := Go.Ground.phase }, { on := 10, ground := Go.Ground.phase }, { on := 11, ground := Go.Ground.phase }, { on := 12, ground := Go.Ground.phase }, { on := 13, ground := Go.Ground.phase }, { on := 14, ground := Go.Ground.phase }, { on := 15, ground := Go.Ground.phase }, { on := 16, ground := Go.Ground.phase }, { on := 17, ground := Go.Ground.phase }, { on := 18, ground := Go.Ground.phase }, { on := 19, ground := Go.Ground.phase }, { on := 20, ground := Go.Ground.phase }, { on := 21, ground := Go.Ground.phase }], guard := none }) (v := ?v65) rfl (by kernel_rfl) (by kernel_rfl) (by kernel_rfl) (fun _ _ _ h => h) (Or.inl ⟨by rfl, ?hy65⟩) (by assumption) ?rest65
  case hy65 => (intro w hSw; (try dsimp only at hSw); have ecpb0 := hSw.cell cpb0 id; have ecpb1 := hSw.cell cpb1 id; have ecpb2 := hSw.cell cpb2 id; have ecpb3 := hSw.cell cpb3 id; have ecpb4 := hSw.cell cpb4 id; have ecpb5 := hSw.cell cpb5 id; have ecpb6 := hSw.cell cpb6 id; have ecpb7 := hSw.cell cpb7 id; have ecpb8 := hSw.cell cpb8 id; have ecpb9 := hSw.cell cpb9 id; have ecqb0 := hSw.cell cqb0 id; have ecqb1 := hSw.cell cqb1 id; have ecqb2 := hSw.cell cqb2 id; have ecqb3 := hSw.cell cqb3 id; have ecqb4 := hSw.cell cqb4 id; have ecqb5 := hSw.cell cqb5 id; have ecqb6 := hSw.cell cqb6 id; have ecqb7 := hSw.cell cqb7 id; have ecqb8 := hSw.cell cqb8 id; have ecqb9 := hSw.cell cqb9 id; go_simp <;> with_reducible rfl)
  try simp only [Act.put, List.setIfInBounds_toArray, List.set_cons_zero, List.set_cons_succ]
  refine wpAnyH_done (by kernel_rfl) ?_ _
  go_wp2_with fail
  go_ret
  exact ⟨rfl, (HX_w1.out.trans HX_w2.out).trans hS1⟩
set_option maxRecDepth 100000 in
set_option maxHeartbeats 4000000 in
theorem past_4 (p q : Pk) (A B : Option Addr) (c d : Nat) (w : World) (h1 : ∀ w, Calls Tryd.prog 40 #[pkv p (.slice A p.b.length c)] w fun e w' => e = .returned (.int .i64 p.en) ∧ Ex (fun _ => False) w w') (h2 : ∀ w, Calls Tryd.prog 40 #[pkv q (.slice B q.b.length d)] w fun e w' => e = .returned (.int .i64 q.en) ∧ Ex (fun _ => False) w w') (hq : q.mf = false) (h : ¬ q.en < p.en) (hp : p.mf = false) (b : Bool) (hb : b = decide (p.en ≠ q.en)) :
    Calls Tryd.prog 42 #[pkv p (.slice A p.b.length c), pkv q (.slice B q.b.length d)] w fun e w' => e = .returned (.bool b) ∧ Ex (fun _ => False) w w' := by
  obtain ⟨X, hX⟩ : ∃ X, p.en = X := ⟨_, rfl⟩
  obtain ⟨Y, hY⟩ : ∃ Y, q.en = Y := ⟨_, rfl⟩
  simp only [hX] at *
  simp only [hY] at *
  obtain ⟨xtos, xid, xdf, xmf, xoff, xttl, xpr, xsrc, xdst, xb⟩ := p
  obtain ⟨ytos, yid, ydf, ymf, yoff, yttl, ypr, ysrc, ydst, yb⟩ := q
  have H1 := Lib.hid h1
  have H2 := Lib.hid h2
  clear h1 h2 hX hY
  have hq2 : ymf = false := hq
  clear hq
  subst hq2
  have hp2 : xmf = false := hp
  clear hp
  subst hp2
  show Calls Tryd.prog 42 #[.agg #[.int .u8 xtos, .int .u16 xid, .bool xdf, .bool false, .int .i64 xoff, .int .u8 xttl, .int .u8 xpr, .int .u32 xsrc, .int .u32 xdst, .slice A xb.length c], .agg #[.int .u8 ytos, .int .u16 yid, .bool ydf, .bool false, .int .i64 yoff, .int .u8 yttl, .int .u8 ypr, .int .u32 ysrc, .int .u32 ydst, .slice B yb.length d]] w _
  go_enter Tryd.func42, Tryd.ntmps42
  go_upto_region 1 with fail
  have hx : Ex (fun _ => False) w (w.alloc (.cells #[.int .u8 xtos, .int .u16 xid, .bool xdf, .bool false, .int .i64 xoff, .int .u8 xttl, .int .u8 xpr, .int .u32 xsrc, .int .u32 xdst, .slice A xb.length c] 27)) := (Ex.refl _ w).alloc _
  have hb : (w.alloc (.cells #[.int .u8 xtos, .int .u16 xid, .bool xdf, .bool false, .int .i64 xoff, .int .u8 xttl, .int .u8 xpr, .int .u32 xsrc, .int .u32 xdst, .slice A xb.length c] 27)).heap[w.heap.size]? = some (.cells #[.int .u8 xtos, .int .u16 xid, .bool xdf, .bool false, .int .i64 xoff, .int .u8 xttl, .int .u8 xpr, .int .u32 xsrc, .int .u32 xdst, .slice A xb.length c] 27) := heap_alloc_new w _
  have hs1 : (w.alloc (.cells #[.int .u8 xtos, .int .u16 xid, .bool xdf, .bool false, .int .i64 xoff, .int .u8 xttl, .int .u8 xpr, .int .u32 xsrc, .int .u32 xdst, .slice A xb.length c] 27)).heap.size = w.heap.size + 1 := by simp
  obtain ⟨pb, hpb⟩ : ∃ pb, pb = w.heap.size := ⟨_, rfl⟩
  have hb_pb : w.heap.size ≤ pb := by omega
  rw [← hpb] at hb hs1 
  try simp only [← hpb]
  generalize w.alloc (.cells #[.int .u8 xtos, .int .u16 xid, .bool xdf, .bool false, .int .i64 xoff, .int .u8 xttl, .int .u8 xpr, .int .u32 xsrc, .int .u32 xdst, .slice A xb.length c] 27) = w1 at hx hb  hs1 ⊢
  try simp only [← hs1]
  clear hs1
  clear hpb
  have HX_w1 := Lib.hid hx
  clear hx
  have B_pb := Lib.hid hb
  clear hb
  have hx : Ex (fun _ => False) w1 (w1.alloc (.cells #[.int .u8 ytos, .int .u16 yid, .bool ydf, .bool false, .int .i64 yoff, .int .u8 yttl, .int .u8 ypr, .int .u32 ysrc, .int .u32 ydst, .slice B yb.length d] 27)) := (Ex.refl _ w1).alloc _
  have hb : (w1.alloc (.cells #[.int .u8 ytos, .int .u16 yid, .bool ydf, .bool false, .int .i64 yoff, .int .u8 yttl, .int .u8 ypr, .int .u32 ysrc, .int .u32 ydst, .slice B yb.length d] 27)).heap[w1.heap.size]? = some (.cells #[.int .u8 ytos, .int .u16 yid, .bool ydf, .bool false, .int .i64 yoff, .int .u8 yttl, .int .u8 ypr, .int .u32 ysrc, .int .u32 ydst, .slice B yb.length d] 27) := heap_alloc_new w1 _
  obtain ⟨qb, hqb⟩ : ∃ qb, qb = w1.heap.size := ⟨_, rfl⟩
  have hb_qb : w1.heap.size ≤ qb := by omega
  rw [← hqb] at hb
  try simp only [← hqb]
  generalize w1.alloc (.cells #[.int .u8 ytos, .int .u16 yid, .bool ydf, .bool false, .int .i64 yoff, .int .u8 yttl, .int .u8 ypr, .int .u32 ysrc, .int .u32 ydst, .slice B yb.length d] 27) = w2 at hx hb ⊢
  clear hqb
  have HX_w2 := Lib.hid hx
  clear hx
  have B_qb := Lib.hid hb
  clear hb
  replace B_pb := Lib.hid ((HX_w2.out.block pb (row_lt B_pb.out) id).trans B_pb.out)
  have cpb0 := row_cell (k := 0) (v := .int .u8 xtos) B_pb.out rfl
  have cpb1 := row_cell (k := 1) (v := .int .u16 xid) B_pb.out rfl
  have cpb2 := row_cell (k := 2) (v := .bool xdf) B_pb.out rfl
  have cpb3 := row_cell (k := 3) (v := .bool false) B_pb.out rfl
  have cpb4 := row_cell (k := 4) (v := .int .i64 xoff) B_pb.out rfl
  have cpb5 := row_cell (k := 5) (v := .int .u8 xttl) B_pb.out rfl
  have cpb6 := row_cell (k := 6) (v := .int .u8 xpr) B_pb.out rfl
  have cpb7 := row_cell (k := 7) (v := .int .u32 xsrc) B_pb.out rfl
  have cpb8 := row_cell (k := 8) (v := .int .u32 xdst) B_pb.out rfl
  have cpb9 := row_cell (k := 9) (v := .slice A xb.length c) B_pb.out rfl
  have cqb0 := row_cell (k := 0) (v := .int .u8 ytos) B_qb.out rfl
  have cqb1 := row_cell (k := 1) (v := .int .u16 yid) B_qb.out rfl
  have cqb2 := row_cell (k := 2) (v := .bool ydf) B_qb.out rfl
  have cqb3 := row_cell (k := 3) (v := .bool false) B_qb.out rfl
  have cqb4 := row_cell (k := 4) (v := .int .i64 yoff) B_qb.out rfl
  have cqb5 := row_cell (k := 5) (v := .int .u8 yttl) B_qb.out rfl
  have cqb6 := row_cell (k := 6) (v := .int .u8 ypr) B_qb.out rfl
  have cqb7 := row_cell (k := 7) (v := .int .u32 ysrc) B_qb.out rfl
  have cqb8 := row_cell (k := 8) (v := .int .u32 ydst) B_qb.out rfl
  have cqb9 := row_cell (k := 9) (v := .slice B yb.length d) B_qb.out rfl
  have hS0 : Ex (fun _ => False) w2 w2.drew := (Ex.refl _ w2).drew
  refine wp_region_held_drew (S := fun W => Ex (fun _ => False) w2 W) (by kernel_rfl) hS0 (fun _ => ?_)
  refine wpAnyH_take (i := 0) (oi := { dst := some 5, op := Go.Op.fieldAddr 27 (Go.Operand.tmp 3) 3, type := 0, pos := "frag.go:83", after := #[], guard := none }) (v := ?v66) rfl (by kernel_rfl) (by kernel_rfl) (by kernel_rfl) (fun _ _ _ h => h) (Or.inl ⟨by rfl, ?hy66⟩) (by assumption) ?rest66
  case hy66 => (intro w hSw; (try dsimp only at hSw); have ecpb0 := hSw.cell cpb0 id; have ecpb1 := hSw.cell cpb1 id; have ecpb2 := hSw.cell cpb2 id; have ecpb3 := hSw.cell cpb3 id; have ecpb4 := hSw.cell cpb4 id; have ecpb5 := hSw.cell cpb5 id; have ecpb6 := hSw.cell cpb6 id; have ecpb7 := hSw.cell cpb7 id; have ecpb8 := hSw.cell cpb8 id; have ecpb9 := hSw.cell cpb9 id; have ecqb0 := hSw.cell cqb0 id; have ecqb1 := hSw.cell cqb1 id; have ecqb2 := hSw.cell cqb2 id; have ecqb3 := hSw.cell cqb3 id; have ecqb4 := hSw.cell cqb4 id; have ecqb5 := hSw.cell cqb5 id; have ecqb6 := hSw.cell cqb6 id; have ecqb7 := hSw.cell cqb7 id; have ecqb8 := hSw.cell cqb8 id; have ecqb9 := hSw.cell cqb9 id; go_simp <;> with_reducible rfl)
  try simp only [Act.put, List.setIfInBounds_toArray, List.set_cons_zero, List.set_cons_succ]
  refine wpAnyH_take (i := 1) (oi := { dst := some 6, op := Go.Op.load 4 (Go.Operand.tmp 5), type := 4, pos := "frag.go:83", after := #[{ on := 0, ground := Go.Ground.data }], guard := none }) (v := ?v67) rfl (by kernel_rfl) (by kernel_rfl) (by kernel_rfl) (fun _ _ _ h => h) (Or.inl ⟨by rfl, ?hy67⟩) (by assumption) ?rest67
  case hy67 => (intro w hSw; (try dsimp only at hSw); have ecpb0 := hSw.cell cpb0 id; have ecpb1 := hSw.cell cpb1 id; have ecpb2 := hSw.cell cpb2 id; have ecpb3 := hSw.cell cpb3 id; have ecpb4 := hSw.cell cpb4 id; have ecpb5 := hSw.cell cpb5 id; have ecpb6 := hSw.cell cpb6 id; have ecpb7 := hSw.cell cpb7 id; have ecpb8 := hSw.cell cpb8 id; have ecpb9 := hSw.cell cpb9 id; have ecqb0 := hSw.cell cqb0 id; have ecqb1 := hSw.cell cqb1 id; have ecqb2 := hSw.cell cqb2 id; have ecqb3 := hSw.cell cqb3 id; have ecqb4 := hSw.cell cqb4 id; have ecqb5 := hSw.cell cqb5 id; have ecqb6 := hSw.cell cqb6 id; have ecqb7 := hSw.cell cqb7 id; have ecqb8 := hSw.cell cqb8 id; have ecqb9 := hSw.cell cqb9 id; go_simp <;> with_reducible rfl)
  try simp only [Act.put, List.setIfInBounds_toArray, List.set_cons_zero, List.set_cons_succ]
  refine wpAnyH_take (i := 2) (oi := { dst := some 7, op := Go.Op.unOp Go.UnOp.not 4 (Go.Operand.tmp 6), type := 4, pos := "frag.go:83", after := #[{ on := 1, ground := Go.Ground.data }], guard := none }) (v := ?v68) rfl (by kernel_rfl) (by kernel_rfl) (by kernel_rfl) (fun _ _ _ h => h) (Or.inl ⟨by rfl, ?hy68⟩) (by assumption) ?rest68
  case hy68 => (intro w hSw; (try dsimp only at hSw); have ecpb0 := hSw.cell cpb0 id; have ecpb1 := hSw.cell cpb1 id; have ecpb2 := hSw.cell cpb2 id; have ecpb3 := hSw.cell cpb3 id; have ecpb4 := hSw.cell cpb4 id; have ecpb5 := hSw.cell cpb5 id; have ecpb6 := hSw.cell cpb6 id; have ecpb7 := hSw.cell cpb7 id; have ecpb8 := hSw.cell cpb8 id; have ecpb9 := hSw.cell cpb9 id; have ecqb0 := hSw.cell cqb0 id; have ecqb1 := hSw.cell cqb1 id; have ecqb2 := hSw.cell cqb2 id; have ecqb3 := hSw.cell cqb3 id; have ecqb4 := hSw.cell cqb4 id; have ecqb5 := hSw.cell cqb5 id; have ecqb6 := hSw.cell cqb6 id; have ecqb7 := hSw.cell cqb7 id; have ecqb8 := hSw.cell cqb8 id; have ecqb9 := hSw.cell cqb9 id; go_simp <;> with_reducible rfl)
  try simp only [Act.put, List.setIfInBounds_toArray, List.set_cons_zero, List.set_cons_succ]
  refine wpAnyH_take (i := 3) (oi := { dst := some 8, op := Go.Op.move (Go.Operand.tmp 7), type := 4, pos := "frag.go:83", after := #[{ on := 2, ground := Go.Ground.data }], guard := none }) (v := ?v69) rfl (by kernel_rfl) (by kernel_rfl) (by kernel_rfl) (fun _ _ _ h => h) (Or.inl ⟨by rfl, ?hy69⟩) (by assumption) ?rest69
  case hy69 => (intro w hSw; (try dsimp only at hSw); have ecpb0 := hSw.cell cpb0 id; have ecpb1 := hSw.cell cpb1 id; have ecpb2 := hSw.cell cpb2 id; have ecpb3 := hSw.cell cpb3 id; have ecpb4 := hSw.cell cpb4 id; have ecpb5 := hSw.cell cpb5 id; have ecpb6 := hSw.cell cpb6 id; have ecpb7 := hSw.cell cpb7 id; have ecpb8 := hSw.cell cpb8 id; have ecpb9 := hSw.cell cpb9 id; have ecqb0 := hSw.cell cqb0 id; have ecqb1 := hSw.cell cqb1 id; have ecqb2 := hSw.cell cqb2 id; have ecqb3 := hSw.cell cqb3 id; have ecqb4 := hSw.cell cqb4 id; have ecqb5 := hSw.cell cqb5 id; have ecqb6 := hSw.cell cqb6 id; have ecqb7 := hSw.cell cqb7 id; have ecqb8 := hSw.cell cqb8 id; have ecqb9 := hSw.cell cqb9 id; go_simp <;> with_reducible rfl)
  try simp only [Act.put, List.setIfInBounds_toArray, List.set_cons_zero, List.set_cons_succ]
  refine wpAnyH_take (i := 4) (oi := { dst := some 9, op := Go.Op.load 27 (Go.Operand.tmp 2), type := 27, pos := "frag.go:83", after := #[{ on := 3, ground := Go.Ground.guard }], guard := some (3, true) }) (v := ?v70) rfl (by kernel_rfl) (by kernel_rfl) (by kernel_rfl) (fun _ _ _ h => h) (Or.inl ⟨by rfl, ?hy70⟩) (by assumption) ?rest70
  case hy70 => (intro w hSw; (try dsimp only at hSw); have ecpb0 := hSw.cell cpb0 id; have ecpb1 := hSw.cell cpb1 id; have ecpb2 := hSw.cell cpb2 id; have ecpb3 := hSw.cell cpb3 id; have ecpb4 := hSw.cell cpb4 id; have ecpb5 := hSw.cell cpb5 id; have ecpb6 := hSw.cell cpb6 id; have ecpb7 := hSw.cell cpb7 id; have ecpb8 := hSw.cell cpb8 id; have ecpb9 := hSw.cell cpb9 id; have ecqb0 := hSw.cell cqb0 id; have ecqb1 := hSw.cell cqb1 id; have ecqb2 := hSw.cell cqb2 id; have ecqb3 := hSw.cell cqb3 id; have ecqb4 := hSw.cell cqb4 id; have ecqb5 := hSw.cell cqb5 id; have ecqb6 := hSw.cell cqb6 id; have ecqb7 := hSw.cell cqb7 id; have ecqb8 := hSw.cell cqb8 id; have ecqb9 := hSw.cell cqb9 id; go_simp <;> with_reducible rfl)
  try simp only [Act.put, List.setIfInBounds_toArray, List.set_cons_zero, List.set_cons_succ]
  refine wpAnyH_take (i := 6) (oi := { dst := some 11, op := Go.Op.load 27 (Go.Operand.tmp 3), type := 27, pos := "frag.go:83", after := #[{ on := 3, ground := Go.Ground.guard }], guard := some (3, true) }) (v := ?v71) rfl (by kernel_rfl) (by kernel_rfl) (by kernel_rfl) (fun _ _ _ h => h) (Or.inl ⟨by rfl, ?hy71⟩) (by assumption) ?rest71
  case hy71 => (intro w hSw; (try dsimp only at hSw); have ecpb0 := hSw.cell cpb0 id; have ecpb1 := hSw.cell cpb1 id; have ecpb2 := hSw.cell cpb2 id; have ecpb3 := hSw.cell cpb3 id; have ecpb4 := hSw.cell cpb4 id; have ecpb5 := hSw.cell cpb5 id; have ecpb6 := hSw.cell cpb6 id; have ecpb7 := hSw.cell cpb7 id; have ecpb8 := hSw.cell cpb8 id; have ecpb9 := hSw.cell cpb9 id; have ecqb0 := hSw.cell cqb0 id; have ecqb1 := hSw.cell cqb1 id; have ecqb2 := hSw.cell cqb2 id; have ecqb3 := hSw.cell cqb3 id; have ecqb4 := hSw.cell cqb4 id; have ecqb5 := hSw.cell cqb5 id; have ecqb6 := hSw.cell cqb6 id; have ecqb7 := hSw.cell cqb7 id; have ecqb8 := hSw.cell cqb8 id; have ecqb9 := hSw.cell cqb9 id; go_simp <;> with_reducible rfl)
  try simp only [Act.put, List.setIfInBounds_toArray, List.set_cons_zero, List.set_cons_succ]
  refine wpAnyH_ready (rs := [5]) (by kernel_rfl) (by simp) ?_
  refine AllReadyH.cons (o := { dst := some 10, op := Go.Op.call { callee := Go.Callee.value (Go.Operand.func 40), args := #[Go.Operand.tmp 9], argTypes := #[27] }, type := 3, pos := "frag.go:83", after := #[{ on := 4, ground := Go.Ground.data }, { on := 3, ground := Go.Ground.chain }, { on := 3, ground := Go.Ground.guard }], guard := some (3, true) }) rfl (fun K hK => ?_) AllReadyH.nil
  go_simp
  refine (H1.out _).mono ?_
  rintro e wn ⟨rfl, hx⟩
  have hS1 : Ex (fun _ => False) w2 wn := Ex.trans (by assumption) hx
  clear hx
  refine hK.out _ _ hS1 (fun _ => ?_)
  refine wpAnyH_ready (rs := [7]) (by kernel_rfl) (by simp) ?_
  refine AllReadyH.cons (o := { dst := some 12, op := Go.Op.call { callee := Go.Callee.value (Go.Operand.func 40), args := #[Go.Operand.tmp 11], argTypes := #[27] }, type := 3, pos := "frag.go:83", after := #[{ on := 6, ground := Go.Ground.data }, { on := 5, ground := Go.Ground.chain }, { on := 3, ground := Go.Ground.guard }], guard := some (3, true) }) rfl (fun K hK => ?_) AllReadyH.nil
  go_simp
  refine (H2.out _).mono ?_
  rintro e wn ⟨rfl, hx⟩
  have hS1 : Ex (fun _ => False) w2 wn := Ex.trans (by assumption) hx
  clear hx
  refine hK.out _ _ hS1 (fun _ => ?_)
  refine wpAnyH_take (i := 8) (oi := { dst := some 13, op := Go.Op.binOp Go.BinOp.gtr 3 (Go.Operand.tmp 10) (Go.Operand.tmp 12) 3, type := 4, pos := "frag.go:83", after := #[{ on := 5, ground := Go.Ground.data }, { on := 7, ground := Go.Ground.data }, { on := 3, ground := Go.Ground.guard }], guard := some (3, true) }) (v := ?v72) rfl (by kernel_rfl) (by kernel_rfl) (by kernel_rfl) (fun _ _ _ h => h) (Or.inl ⟨by rfl, ?hy72⟩) (by assumption) ?rest72
  case hy72 => (intro w hSw; (try dsimp only at hSw); have ecpb0 := hSw.cell cpb0 id; have ecpb1 := hSw.cell cpb1 id; have ecpb2 := hSw.cell cpb2 id; have ecpb3 := hSw.cell cpb3 id; have ecpb4 := hSw.cell cpb4 id; have ecpb5 := hSw.cell cpb5 id; have ecpb6 := hSw.cell cpb6 id; have ecpb7 := hSw.cell cpb7 id; have ecpb8 := hSw.cell cpb8 id; have ecpb9 := hSw.cell cpb9 id; have ecqb0 := hSw.cell cqb0 id; have ecqb1 := hSw.cell cqb1 id; have ecqb2 := hSw.cell cqb2 id; have ecqb3 := hSw.cell cqb3 id; have ecqb4 := hSw.cell cqb4 id; have ecqb5 := hSw.cell cqb5 id; have ecqb6 := hSw.cell cqb6 id; have ecqb7 := hSw.cell cqb7 id; have ecqb8 := hSw.cell cqb8 id; have ecqb9 := hSw.cell cqb9 id; go_simp <;> with_reducible rfl)
  try simp only [Act.put, List.setIfInBounds_toArray, List.set_cons_zero, List.set_cons_succ]
  refine wpAnyH_take (i := 9) (oi := { dst := some 14, op := Go.Op.move (Go.Operand.tmp 13), type := 4, pos := "frag.go:83", after := #[{ on := 8, ground := Go.Ground.data }, { on := 7, ground := Go.Ground.chain }, { on := 3, ground := Go.Ground.guard }], guard := some (3, true) }) (v := ?v73) rfl (by kernel_rfl) (by kernel_rfl) (by kernel_rfl) (fun _ _ _ h => h) (Or.inl ⟨by rfl, ?hy73⟩) (by assumption) ?rest73
  case hy73 => (intro w hSw; (try dsimp only at hSw); have ecpb0 := hSw.cell cpb0 id; have ecpb1 := hSw.cell cpb1 id; have ecpb2 := hSw.cell cpb2 id; have ecpb3 := hSw.cell cpb3 id; have ecpb4 := hSw.cell cpb4 id; have ecpb5 := hSw.cell cpb5 id; have ecpb6 := hSw.cell cpb6 id; have ecpb7 := hSw.cell cpb7 id; have ecpb8 := hSw.cell cpb8 id; have ecpb9 := hSw.cell cpb9 id; have ecqb0 := hSw.cell cqb0 id; have ecqb1 := hSw.cell cqb1 id; have ecqb2 := hSw.cell cqb2 id; have ecqb3 := hSw.cell cqb3 id; have ecqb4 := hSw.cell cqb4 id; have ecqb5 := hSw.cell cqb5 id; have ecqb6 := hSw.cell cqb6 id; have ecqb7 := hSw.cell cqb7 id; have ecqb8 := hSw.cell cqb8 id; have ecqb9 := hSw.cell cqb9 id; go_simp <;> with_reducible rfl)
  try simp only [Act.put, List.setIfInBounds_toArray, List.set_cons_zero, List.set_cons_succ]
  refine wpAnyH_take (i := 10) (oi := { dst := some 15, op := Go.Op.fieldAddr 27 (Go.Operand.tmp 2) 3, type := 0, pos := "frag.go:83", after := #[{ on := 9, ground := Go.Ground.guard }], guard := some (9, false) }) (v := ?v74) rfl (by kernel_rfl) (by kernel_rfl) (by kernel_rfl) (fun _ _ _ h => h) (Or.inl ⟨by rfl, ?hy74⟩) (by assumption) ?rest74
  case hy74 => (intro w hSw; (try dsimp only at hSw); have ecpb0 := hSw.cell cpb0 id; have ecpb1 := hSw.cell cpb1 id; have ecpb2 := hSw.cell cpb2 id; have ecpb3 := hSw.cell cpb3 id; have ecpb4 := hSw.cell cpb4 id; have ecpb5 := hSw.cell cpb5 id; have ecpb6 := hSw.cell cpb6 id; have ecpb7 := hSw.cell cpb7 id; have ecpb8 := hSw.cell cpb8 id; have ecpb9 := hSw.cell cpb9 id; have ecqb0 := hSw.cell cqb0 id; have ecqb1 := hSw.cell cqb1 id; have ecqb2 := hSw.cell cqb2 id; have ecqb3 := hSw.cell cqb3 id; have ecqb4 := hSw.cell cqb4 id; have ecqb5 := hSw.cell cqb5 id; have ecqb6 := hSw.cell cqb6 id; have ecqb7 := hSw.cell cqb7 id; have ecqb8 := hSw.cell cqb8 id; have ecqb9 := hSw.cell cqb9 id; go_simp <;> with_reducible rfl)
  try simp only [Act.put, List.setIfInBounds_toArray, List.set_cons_zero, List.set_cons_succ]
  refine wpAnyH_take (i := 11) (oi := { dst := some 16, op := Go.Op.load 4 (Go.Operand.tmp 15), type := 4, pos := "frag.go:83", after := #[{ on := 10, ground := Go.Ground.data }, { on := 9, ground := Go.Ground.guard }], guard := some (9, false) }) (v := ?v75) rfl (by kernel_rfl) (by kernel_rfl) (by kernel_rfl) (fun _ _ _ h => h) (Or.inl ⟨by rfl, ?hy75⟩) (by assumption) ?rest75
  case hy75 => (intro w hSw; (try dsimp only at hSw); have ecpb0 := hSw.cell cpb0 id; have ecpb1 := hSw.cell cpb1 id; have ecpb2 := hSw.cell cpb2 id; have ecpb3 := hSw.cell cpb3 id; have ecpb4 := hSw.cell cpb4 id; have ecpb5 := hSw.cell cpb5 id; have ecpb6 := hSw.cell cpb6 id; have ecpb7 := hSw.cell cpb7 id; have ecpb8 := hSw.cell cpb8 id; have ecpb9 := hSw.cell cpb9 id; have ecqb0 := hSw.cell cqb0 id; have ecqb1 := hSw.cell cqb1 id; have ecqb2 := hSw.cell cqb2 id; have ecqb3 := hSw.cell cqb3 id; have ecqb4 := hSw.cell cqb4 id; have ecqb5 := hSw.cell cqb5 id; have ecqb6 := hSw.cell cqb6 id; have ecqb7 := hSw.cell cqb7 id; have ecqb8 := hSw.cell cqb8 id; have ecqb9 := hSw.cell cqb9 id; go_simp <;> with_reducible rfl)
  try simp only [Act.put, List.setIfInBounds_toArray, List.set_cons_zero, List.set_cons_succ]
  refine wpAnyH_take (i := 12) (oi := { dst := some 17, op := Go.Op.unOp Go.UnOp.not 4 (Go.Operand.tmp 16), type := 4, pos := "frag.go:83", after := #[{ on := 11, ground := Go.Ground.data }, { on := 9, ground := Go.Ground.guard }], guard := some (9, false) }) (v := ?v76) rfl (by kernel_rfl) (by kernel_rfl) (by kernel_rfl) (fun _ _ _ h => h) (Or.inl ⟨by rfl, ?hy76⟩) (by assumption) ?rest76
  case hy76 => (intro w hSw; (try dsimp only at hSw); have ecpb0 := hSw.cell cpb0 id; have ecpb1 := hSw.cell cpb1 id; have ecpb2 := hSw.cell cpb2 id; have ecpb3 := hSw.cell cpb3 id; have ecpb4 := hSw.cell cpb4 id; have ecpb5 := hSw.cell cpb5 id; have ecpb6 := hSw.cell cpb6 id; have ecpb7 := hSw.cell cpb7 id; have ecpb8 := hSw.cell cpb8 id; have ecpb9 := hSw.cell cpb9 id; have ecqb0 := hSw.cell cqb0 id; have ecqb1 := hSw.cell cqb1 id; have ecqb2 := hSw.cell cqb2 id; have ecqb3 := hSw.cell cqb3 id; have ecqb4 := hSw.cell cqb4 id; have ecqb5 := hSw.cell cqb5 id; have ecqb6 := hSw.cell cqb6 id; have ecqb7 := hSw.cell cqb7 id; have ecqb8 := hSw.cell cqb8 id; have ecqb9 := hSw.cell cqb9 id; go_simp <;> with_reducible rfl)
  try simp only [Act.put, List.setIfInBounds_toArray, List.set_cons_zero, List.set_cons_succ]
  refine wpAnyH_take (i := 13) (oi := { dst := some 18, op := Go.Op.move (Go.Operand.tmp 17), type := 4, pos := "frag.go:83", after := #[{ on := 12, ground := Go.Ground.data }, { on := 9, ground := Go.Ground.chain }, { on := 9, ground := Go.Ground.guard }], guard := some (9, false) }) (v := ?v77) rfl (by kernel_rfl) (by kernel_rfl) (by kernel_rfl) (fun _ _ _ h => h) (Or.inl ⟨by rfl, ?hy77⟩) (by assumption) ?rest77
  case hy77 => (intro w hSw; (try dsimp only at hSw); have ecpb0 := hSw.cell cpb0 id; have ecpb1 := hSw.cell cpb1 id; have ecpb2 := hSw.cell cpb2 id; have ecpb3 := hSw.cell cpb3 id; have ecpb4 := hSw.cell cpb4 id; have ecpb5 := hSw.cell cpb5 id; have ecpb6 := hSw.cell cpb6 id; have ecpb7 := hSw.cell cpb7 id; have ecpb8 := hSw.cell cpb8 id; have ecpb9 := hSw.cell cpb9 id; have ecqb0 := hSw.cell cqb0 id; have ecqb1 := hSw.cell cqb1 id; have ecqb2 := hSw.cell cqb2 id; have ecqb3 := hSw.cell cqb3 id; have ecqb4 := hSw.cell cqb4 id; have ecqb5 := hSw.cell cqb5 id; have ecqb6 := hSw.cell cqb6 id; have ecqb7 := hSw.cell cqb7 id; have ecqb8 := hSw.cell cqb8 id; have ecqb9 := hSw.cell cqb9 id; go_simp <;> with_reducible rfl)
  try simp only [Act.put, List.setIfInBounds_toArray, List.set_cons_zero, List.set_cons_succ]
  refine wpAnyH_take (i := 14) (oi := { dst := some 19, op := Go.Op.load 27 (Go.Operand.tmp 2), type := 27, pos := "frag.go:83", after := #[{ on := 13, ground := Go.Ground.guard }], guard := some (13, true) }) (v := ?v78) rfl (by kernel_rfl) (by kernel_rfl) (by kernel_rfl) (fun _ _ _ h => h) (Or.inl ⟨by rfl, ?hy78⟩) (by assumption) ?rest78
  case hy78 => (intro w hSw; (try dsimp only at hSw); have ecpb0 := hSw.cell cpb0 id; have ecpb1 := hSw.cell cpb1 id; have ecpb2 := hSw.cell cpb2 id; have ecpb3 := hSw.cell cpb3 id; have ecpb4 := hSw.cell cpb4 id; have ecpb5 := hSw.cell cpb5 id; have ecpb6 := hSw.cell cpb6 id; have ecpb7 := hSw.cell cpb7 id; have ecpb8 := hSw.cell cpb8 id; have ecpb9 := hSw.cell cpb9 id; have ecqb0 := hSw.cell cqb0 id; have ecqb1 := hSw.cell cqb1 id; have ecqb2 := hSw.cell cqb2 id; have ecqb3 := hSw.cell cqb3 id; have ecqb4 := hSw.cell cqb4 id; have ecqb5 := hSw.cell cqb5 id; have ecqb6 := hSw.cell cqb6 id; have ecqb7 := hSw.cell cqb7 id; have ecqb8 := hSw.cell cqb8 id; have ecqb9 := hSw.cell cqb9 id; go_simp <;> with_reducible rfl)
  try simp only [Act.put, List.setIfInBounds_toArray, List.set_cons_zero, List.set_cons_succ]
  refine wpAnyH_take (i := 16) (oi := { dst := some 21, op := Go.Op.load 27 (Go.Operand.tmp 3), type := 27, pos := "frag.go:83", after := #[{ on := 13, ground := Go.Ground.guard }], guard := some (13, true) }) (v := ?v79) rfl (by kernel_rfl) (by kernel_rfl) (by kernel_rfl) (fun _ _ _ h => h) (Or.inl ⟨by rfl, ?hy79⟩) (by assumption) ?rest79
  case hy79 => (intro w hSw; (try dsimp only at hSw); have ecpb0 := hSw.cell cpb0 id; have ecpb1 := hSw.cell cpb1 id; have ecpb2 := hSw.cell cpb2 id; have ecpb3 := hSw.cell cpb3 id; have ecpb4 := hSw.cell cpb4 id; have ecpb5 := hSw.cell cpb5 id; have ecpb6 := hSw.cell cpb6 id; have ecpb7 := hSw.cell cpb7 id; have ecpb8 := hSw.cell cpb8 id; have ecpb9 := hSw.cell cpb9 id; have ecqb0 := hSw.cell cqb0 id; have ecqb1 := hSw.cell cqb1 id; have ecqb2 := hSw.cell cqb2 id; have ecqb3 := hSw.cell cqb3 id; have ecqb4 := hSw.cell cqb4 id; have ecqb5 := hSw.cell cqb5 id; have ecqb6 := hSw.cell cqb6 id; have ecqb7 := hSw.cell cqb7 id; have ecqb8 := hSw.cell cqb8 id; have ecqb9 := hSw.cell cqb9 id; go_simp <;> with_reducible rfl)
  try simp only [Act.put, List.setIfInBounds_toArray, List.set_cons_zero, List.set_cons_succ]
  refine wpAnyH_ready (rs := [15]) (by kernel_rfl) (by simp) ?_
  refine AllReadyH.cons (o := { dst := some 20, op := Go.Op.call { callee := Go.Callee.value (Go.Operand.func 40), args := #[Go.Operand.tmp 19], argTypes := #[27] }, type := 3, pos := "frag.go:83", after := #[{ on := 14, ground := Go.Ground.data }, { on := 13, ground := Go.Ground.chain }, { on := 13, ground := Go.Ground.guard }], guard := some (13, true) }) rfl (fun K hK => ?_) AllReadyH.nil
  go_simp
  refine (H1.out _).mono ?_
  rintro e wn ⟨rfl, hx⟩
  have hS1 : Ex (fun _ => False) w2 wn := Ex.trans (by assumption) hx
  clear hx
  refine hK.out _ _ hS1 (fun _ => ?_)
  refine wpAnyH_ready (rs := [17]) (by kernel_rfl) (by simp) ?_
  refine AllReadyH.cons (o := { dst := some 22, op := Go.Op.call { callee := Go.Callee.value (Go.Operand.func 40), args := #[Go.Operand.tmp 21], argTypes := #[27] }, type := 3, pos := "frag.go:83", after := #[{ on := 16, ground := Go.Ground.data }, { on := 15, ground := Go.Ground.chain }, { on := 13, ground := Go.Ground.guard }], guard := some (13, true) }) rfl (fun K hK => ?_) AllReadyH.nil
  go_simp
  refine (H2.out _).mono ?_
  rintro e wn ⟨rfl, hx⟩
  have hS1 : Ex (fun _ => False) w2 wn := Ex.trans (by assumption) hx
  clear hx
  refine hK.out _ _ hS1 (fun _ => ?_)
  refine wpAnyH_take (i := 18) (oi := { dst := some 23, op := Go.Op.binOp Go.BinOp.neq 3 (Go.Operand.tmp 20) (Go.Operand.tmp 22) 3, type := 4, pos := "frag.go:83", after := #[{ on := 15, ground := Go.Ground.data }, { on := 17, ground := Go.Ground.data }, { on := 13, ground := Go.Ground.guard }], guard := some (13, true) }) (v := ?v80) rfl (by kernel_rfl) (by kernel_rfl) (by kernel_rfl) (fun _ _ _ h => h) (Or.inl ⟨by rfl, ?hy80⟩) (by assumption) ?rest80
  case hy80 => (intro w hSw; (try dsimp only at hSw); have ecpb0 := hSw.cell cpb0 id; have ecpb1 := hSw.cell cpb1 id; have ecpb2 := hSw.cell cpb2 id; have ecpb3 := hSw.cell cpb3 id; have ecpb4 := hSw.cell cpb4 id; have ecpb5 := hSw.cell cpb5 id; have ecpb6 := hSw.cell cpb6 id; have ecpb7 := hSw.cell cpb7 id; have ecpb8 := hSw.cell cpb8 id; have ecpb9 := hSw.cell cpb9 id; have ecqb0 := hSw.cell cqb0 id; have ecqb1 := hSw.cell cqb1 id; have ecqb2 := hSw.cell cqb2 id; have ecqb3 := hSw.cell cqb3 id; have ecqb4 := hSw.cell cqb4 id; have ecqb5 := hSw.cell cqb5 id; have ecqb6 := hSw.cell cqb6 id; have ecqb7 := hSw.cell cqb7 id; have ecqb8 := hSw.cell cqb8 id; have ecqb9 := hSw.cell cqb9 id; go_simp <;> with_reducible rfl)
  try simp only [Act.put, List.setIfInBounds_toArray, List.set_cons_zero, List.set_cons_succ]
  refine wpAnyH_take (i := 19) (oi := { dst := some 24, op := Go.Op.pick (Go.Operand.tmp 18) (Go.Operand.tmp 23) (Go.Operand.const (Go.Value.bool false)), type := 4, pos := "frag.go:83", after := #[{ on := 13, ground := Go.Ground.data }, { on := 18, ground := Go.Ground.data }, { on := 9, ground := Go.Ground.guard }], guard := some (9, false) }) (v := ?v81) rfl (by kernel_rfl) (by kernel_rfl) (by kernel_rfl) (fun _ _ _ h => h) (Or.inl ⟨by rfl, ?hy81⟩) (by assumption) ?rest81
  case hy81 => (intro w hSw; (try dsimp only at hSw); have ecpb0 := hSw.cell cpb0 id; have ecpb1 := hSw.cell cpb1 id; have ecpb2 := hSw.cell cpb2 id; have ecpb3 := hSw.cell cpb3 id; have ecpb4 := hSw.cell cpb4 id; have ecpb5 := hSw.cell cpb5 id; have ecpb6 := hSw.cell cpb6 id; have ecpb7 := hSw.cell cpb7 id; have ecpb8 := hSw.cell cpb8 id; have ecpb9 := hSw.cell cpb9 id; have ecqb0 := hSw.cell cqb0 id; have ecqb1 := hSw.cell cqb1 id; have ecqb2 := hSw.cell cqb2 id; have ecqb3 := hSw.cell cqb3 id; have ecqb4 := hSw.cell cqb4 id; have ecqb5 := hSw.cell cqb5 id; have ecqb6 := hSw.cell cqb6 id; have ecqb7 := hSw.cell cqb7 id; have ecqb8 := hSw.cell cqb8 id; have ecqb9 := hSw.cell cqb9 id; go_simp <;> with_reducible rfl)
  try simp only [Act.put, List.setIfInBounds_toArray, List.set_cons_zero, List.set_cons_succ]
  refine wpAnyH_take (i := 20) (oi := { dst := some 25, op := Go.Op.pick (Go.Operand.tmp 14) (Go.Operand.const (Go.Value.bool true)) (Go.Operand.tmp 24), type := 4, pos := "frag.go:83", after := #[{ on := 9, ground := Go.Ground.data }, { on := 19, ground := Go.Ground.data }, { on := 3, ground := Go.Ground.guard }], guard := some (3, true) }) (v := ?v82) rfl (by kernel_rfl) (by kernel_rfl) (by kernel_rfl) (fun _ _ _ h => h) (Or.inl ⟨by rfl, ?hy82⟩) (by assumption) ?rest82
  case hy82 => (intro w hSw; (try dsimp only at hSw); have ecpb0 := hSw.cell cpb0 id; have ecpb1 := hSw.cell cpb1 id; have ecpb2 := hSw.cell cpb2 id; have ecpb3 := hSw.cell cpb3 id; have ecpb4 := hSw.cell cpb4 id; have ecpb5 := hSw.cell cpb5 id; have ecpb6 := hSw.cell cpb6 id; have ecpb7 := hSw.cell cpb7 id; have ecpb8 := hSw.cell cpb8 id; have ecpb9 := hSw.cell cpb9 id; have ecqb0 := hSw.cell cqb0 id; have ecqb1 := hSw.cell cqb1 id; have ecqb2 := hSw.cell cqb2 id; have ecqb3 := hSw.cell cqb3 id; have ecqb4 := hSw.cell cqb4 id; have ecqb5 := hSw.cell cqb5 id; have ecqb6 := hSw.cell cqb6 id; have ecqb7 := hSw.cell cqb7 id; have ecqb8 := hSw.cell cqb8 id; have ecqb9 := hSw.cell cqb9 id; go_simp <;> with_reducible rfl)
  try simp only [Act.put, List.setIfInBounds_toArray, List.set_cons_zero, List.set_cons_succ]
  refine wpAnyH_take (i := 21) (oi := { dst := some 26, op := Go.Op.pick (Go.Operand.tmp 8) (Go.Operand.tmp 25) (Go.Operand.const (Go.Value.bool false)), type := 4, pos := "frag.go:83", after := #[{ on := 3, ground := Go.Ground.data }, { on := 20, ground := Go.Ground.data }], guard := none }) (v := ?v83) rfl (by kernel_rfl) (by kernel_rfl) (by kernel_rfl) (fun _ _ _ h => h) (Or.inl ⟨by rfl, ?hy83⟩) (by assumption) ?rest83
  case hy83 => (intro w hSw; (try dsimp only at hSw); have ecpb0 := hSw.cell cpb0 id; have ecpb1 := hSw.cell cpb1 id; have ecpb2 := hSw.cell cpb2 id; have ecpb3 := hSw.cell cpb3 id; have ecpb4 := hSw.cell cpb4 id; have ecpb5 := hSw.cell cpb5 id; have ecpb6 := hSw.cell cpb6 id; have ecpb7 := hSw.cell cpb7 id; have ecpb8 := hSw.cell cpb8 id; have ecpb9 := hSw.cell cpb9 id; have ecqb0 := hSw.cell cqb0 id; have ecqb1 := hSw.cell cqb1 id; have ecqb2 := hSw.cell cqb2 id; have ecqb3 := hSw.cell cqb3 id; have ecqb4 := hSw.cell cqb4 id; have ecqb5 := hSw.cell cqb5 id; have ecqb6 := hSw.cell cqb6 id; have ecqb7 := hSw.cell cqb7 id; have ecqb8 := hSw.cell cqb8 id; have ecqb9 := hSw.cell cqb9 id; go_simp <;> with_reducible rfl)
  try simp only [Act.put, List.setIfInBounds_toArray, List.set_cons_zero, List.set_cons_succ]
  refine wpAnyH_take (i := 22) (oi := { dst := some 4, op := Go.Op.assign (Go.Operand.tmp 26), type := 4, pos := "frag.go:83", after := #[{ on := 21, ground := Go.Ground.data }, { on := 17, ground := Go.Ground.chain }, { on := 0, ground := Go.Ground.phase }, { on := 1, ground := Go.Ground.phase }, { on := 2, ground := Go.Ground.phase }, { on := 3, ground := Go.Ground.phase }, { on := 4, ground := Go.Ground.phase }, { on := 5, ground := Go.Ground.phase }, { on := 6, ground := Go.Ground.phase }, { on := 7, ground := Go.Ground.phase }, { on := 8, ground := Go.Ground.phase }, { on := 9, ground := Go.Ground.phase }, { on := 10, ground := Go.Ground.phase }, { on := 11, ground := Go.Ground.phase }, { on := 12, ground := Go.Ground.phase }, { on := 13, ground := Go.Ground.phase }, { on := 14, ground := Go.Ground.phase }, { on := 15, ground := Go.Ground.phase }, { on := 16, ground := Go.Ground.phase }, { on := 17, ground := Go.Ground.phase }, { on := 18, ground := Go.Ground.phase }, { on := 19, ground := Go.Ground.phase }, { on := 20, ground := Go.Ground.phase }, { on := 21, ground := Go.Ground.phase }], guard := none }) (v := ?v84) rfl (by kernel_rfl) (by kernel_rfl) (by kernel_rfl) (fun _ _ _ h => h) (Or.inl ⟨by rfl, ?hy84⟩) (by assumption) ?rest84
  case hy84 => (intro w hSw; (try dsimp only at hSw); have ecpb0 := hSw.cell cpb0 id; have ecpb1 := hSw.cell cpb1 id; have ecpb2 := hSw.cell cpb2 id; have ecpb3 := hSw.cell cpb3 id; have ecpb4 := hSw.cell cpb4 id; have ecpb5 := hSw.cell cpb5 id; have ecpb6 := hSw.cell cpb6 id; have ecpb7 := hSw.cell cpb7 id; have ecpb8 := hSw.cell cpb8 id; have ecpb9 := hSw.cell cpb9 id; have ecqb0 := hSw.cell cqb0 id; have ecqb1 := hSw.cell cqb1 id; have ecqb2 := hSw.cell cqb2 id; have ecqb3 := hSw.cell cqb3 id; have ecqb4 := hSw.cell cqb4 id; have ecqb5 := hSw.cell cqb5 id; have ecqb6 := hSw.cell cqb6 id; have ecqb7 := hSw.cell cqb7 id; have ecqb8 := hSw.cell cqb8 id; have ecqb9 := hSw.cell cqb9 id; go_simp <;> with_reducible rfl)
  try simp only [Act.put, List.setIfInBounds_toArray, List.set_cons_zero, List.set_cons_succ]
  refine wpAnyH_done (by kernel_rfl) ?_ _
  go_wp2_with fail
  go_ret
  exact ⟨rfl, (HX_w1.out.trans HX_w2.out).trans hS1⟩
/-- a part that is looked at: its place and its bytes within bounds -/
def Pk.sm (p : Pk) : Prop := (-1000000 ≤ p.off ∧ p.off ≤ 1000000) ∧ p.b.length ≤ 1000000000
theorem past_any (p q : Pk) (A B : Option Addr) (c d : Nat) (w : World) (hp : p.sm) (hq : q.sm) :
    Calls Tryd.prog 42 #[pkv p (.slice A p.b.length c), pkv q (.slice B q.b.length d)] w fun e w' => e = .returned (.bool (pastB p q)) ∧ Ex (fun _ => False) w w' := by
  have h1 := fun w => end_any p A c w hp.1 hp.2
  have h2 := fun w => end_any q B d w hq.1 hq.2
  unfold pastB
  cases hqm : q.mf
  · by_cases h : q.en < p.en
    · rw [decide_eq_true h]
      exact past_2 p q A B c d w h1 h2 hqm h
    · rw [decide_eq_false h]
      cases hpm : p.mf
      · exact past_4 p q A B c d w h1 h2 hqm h hpm _ rfl
      · exact past_3 p q A B c d w h1 h2 hqm h hpm
  · exact past_1 p q A B c d w h1 h2 hqm
end Go.Proofs.YtabjihchcmjdmaaDoor
