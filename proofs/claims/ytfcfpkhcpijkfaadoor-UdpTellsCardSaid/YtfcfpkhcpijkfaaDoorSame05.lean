/-
  Law 05's same. By an AI agent.
-/
import Derived.Test.YtfcfpkhcpijkfaaDoorOf05
namespace Go.Proofs.YtfcfpkhcpijkfaaDoor
open Go.RowKit

set_option maxRecDepth 100000 in
set_option maxHeartbeats 2000000 in
theorem same_any (P Q : Nat → Prop) (p q : Pk) (A B : Option Addr) (c d : Nat) (w : World) (okp : p.ok) (okq : q.ok) (hp : RB w P (.slice A p.b.length c) p.b) (hq : RB w Q (.slice B q.b.length d) q.b) :
    Calls Tryd.prog 32 #[pkv p (.slice A p.b.length c), pkv q (.slice B q.b.length d)] w fun e w' => e = .returned (.bool (p.eqB q)) ∧ Ex (fun _ => False) w w' := by
  obtain ⟨xtos, xid, xdf, xmf, xoff, xttl, xpr, xsrc, xdst, xb⟩ := p
  obtain ⟨ytos, yid, ydf, ymf, yoff, yttl, ypr, ysrc, ydst, yb⟩ := q
  have HP := Lib.hid hp
  have HQ := Lib.hid hq
  have OKP := Lib.hid okp
  have OKQ := Lib.hid okq
  clear hp hq okp okq
  show Calls Tryd.prog 32 #[.agg #[.int .u8 xtos, .int .u16 xid, .bool xdf, .bool xmf, .int .i64 xoff, .int .u8 xttl, .int .u8 xpr, .int .u32 xsrc, .int .u32 xdst, .slice A xb.length c], .agg #[.int .u8 ytos, .int .u16 yid, .bool ydf, .bool ymf, .int .i64 yoff, .int .u8 yttl, .int .u8 ypr, .int .u32 ysrc, .int .u32 ydst, .slice B yb.length d]] w _
  go_enter Tryd.func32, Tryd.ntmps32
  go_upto_region 1 with fail
  have hx : Ex (fun _ => False) w (w.alloc (.cells #[.int .u8 xtos, .int .u16 xid, .bool xdf, .bool xmf, .int .i64 xoff, .int .u8 xttl, .int .u8 xpr, .int .u32 xsrc, .int .u32 xdst, .slice A xb.length c] 51)) := (Ex.refl _ w).alloc _
  have hb : (w.alloc (.cells #[.int .u8 xtos, .int .u16 xid, .bool xdf, .bool xmf, .int .i64 xoff, .int .u8 xttl, .int .u8 xpr, .int .u32 xsrc, .int .u32 xdst, .slice A xb.length c] 51)).heap[w.heap.size]? = some (.cells #[.int .u8 xtos, .int .u16 xid, .bool xdf, .bool xmf, .int .i64 xoff, .int .u8 xttl, .int .u8 xpr, .int .u32 xsrc, .int .u32 xdst, .slice A xb.length c] 51) := heap_alloc_new w _
  have hs1 : (w.alloc (.cells #[.int .u8 xtos, .int .u16 xid, .bool xdf, .bool xmf, .int .i64 xoff, .int .u8 xttl, .int .u8 xpr, .int .u32 xsrc, .int .u32 xdst, .slice A xb.length c] 51)).heap.size = w.heap.size + 1 := by simp
  obtain ⟨xx, hxx⟩ : ∃ xx, xx = w.heap.size := ⟨_, rfl⟩
  have hb_xx : w.heap.size ≤ xx := by omega
  rw [← hxx] at hb hs1 
  try simp only [← hxx]
  generalize w.alloc (.cells #[.int .u8 xtos, .int .u16 xid, .bool xdf, .bool xmf, .int .i64 xoff, .int .u8 xttl, .int .u8 xpr, .int .u32 xsrc, .int .u32 xdst, .slice A xb.length c] 51) = w1 at hx hb  hs1 ⊢
  try simp only [← hs1]
  clear hs1
  clear hxx
  have HX_w1 := Lib.hid hx
  clear hx
  have B_xx := Lib.hid hb
  clear hb
  have hx : Ex (fun _ => False) w1 (w1.alloc (.cells #[.int .u8 ytos, .int .u16 yid, .bool ydf, .bool ymf, .int .i64 yoff, .int .u8 yttl, .int .u8 ypr, .int .u32 ysrc, .int .u32 ydst, .slice B yb.length d] 51)) := (Ex.refl _ w1).alloc _
  have hb : (w1.alloc (.cells #[.int .u8 ytos, .int .u16 yid, .bool ydf, .bool ymf, .int .i64 yoff, .int .u8 yttl, .int .u8 ypr, .int .u32 ysrc, .int .u32 ydst, .slice B yb.length d] 51)).heap[w1.heap.size]? = some (.cells #[.int .u8 ytos, .int .u16 yid, .bool ydf, .bool ymf, .int .i64 yoff, .int .u8 yttl, .int .u8 ypr, .int .u32 ysrc, .int .u32 ydst, .slice B yb.length d] 51) := heap_alloc_new w1 _
  obtain ⟨yy, hyy⟩ : ∃ yy, yy = w1.heap.size := ⟨_, rfl⟩
  have hb_yy : w1.heap.size ≤ yy := by omega
  rw [← hyy] at hb
  try simp only [← hyy]
  generalize w1.alloc (.cells #[.int .u8 ytos, .int .u16 yid, .bool ydf, .bool ymf, .int .i64 yoff, .int .u8 yttl, .int .u8 ypr, .int .u32 ysrc, .int .u32 ydst, .slice B yb.length d] 51) = w2 at hx hb ⊢
  clear hyy
  have HX_w2 := Lib.hid hx
  clear hx
  have B_yy := Lib.hid hb
  clear hb
  replace B_xx := Lib.hid ((HX_w2.out.block xx (row_lt B_xx.out) id).trans B_xx.out)
  have cxx0 := row_cell (k := 0) (v := .int .u8 xtos) B_xx.out rfl
  have cxx1 := row_cell (k := 1) (v := .int .u16 xid) B_xx.out rfl
  have cxx2 := row_cell (k := 2) (v := .bool xdf) B_xx.out rfl
  have cxx3 := row_cell (k := 3) (v := .bool xmf) B_xx.out rfl
  have cxx4 := row_cell (k := 4) (v := .int .i64 xoff) B_xx.out rfl
  have cxx5 := row_cell (k := 5) (v := .int .u8 xttl) B_xx.out rfl
  have cxx6 := row_cell (k := 6) (v := .int .u8 xpr) B_xx.out rfl
  have cxx7 := row_cell (k := 7) (v := .int .u32 xsrc) B_xx.out rfl
  have cxx8 := row_cell (k := 8) (v := .int .u32 xdst) B_xx.out rfl
  have cxx9 := row_cell (k := 9) (v := .slice A xb.length c) B_xx.out rfl
  have cyy0 := row_cell (k := 0) (v := .int .u8 ytos) B_yy.out rfl
  have cyy1 := row_cell (k := 1) (v := .int .u16 yid) B_yy.out rfl
  have cyy2 := row_cell (k := 2) (v := .bool ydf) B_yy.out rfl
  have cyy3 := row_cell (k := 3) (v := .bool ymf) B_yy.out rfl
  have cyy4 := row_cell (k := 4) (v := .int .i64 yoff) B_yy.out rfl
  have cyy5 := row_cell (k := 5) (v := .int .u8 yttl) B_yy.out rfl
  have cyy6 := row_cell (k := 6) (v := .int .u8 ypr) B_yy.out rfl
  have cyy7 := row_cell (k := 7) (v := .int .u32 ysrc) B_yy.out rfl
  have cyy8 := row_cell (k := 8) (v := .int .u32 ydst) B_yy.out rfl
  have cyy9 := row_cell (k := 9) (v := .slice B yb.length d) B_yy.out rfl
  replace HP := Lib.hid (RB.keep HP.out (HX_w1.out.trans HX_w2.out) (fun _ _ _ => id))
  replace HQ := Lib.hid (RB.keep HQ.out (HX_w1.out.trans HX_w2.out) (fun _ _ _ => id))
  have hS0 : Ex (fun _ => False) w2 w2.drew := (Ex.refl _ w2).drew
  refine wp_region_held_drew (S := fun W => Ex (fun _ => False) w2 W) (by kernel_rfl) hS0 (fun _ => ?_)
  refine wpAnyH_take (i := 0) (oi := { dst := some 5, op := Go.Op.load 51 (Go.Operand.tmp 2), type := 51, pos := "law.go:39", after := #[], guard := none }) (v := ?v1) rfl (by kernel_rfl) (by kernel_rfl) (by kernel_rfl) (fun _ _ _ h => h) (Or.inl ⟨by rfl, ?hy1⟩) (by assumption) ?rest1
  case hy1 => (intro w hSw; (try dsimp only at hSw); have ecxx0 := hSw.cell cxx0 id; have ecxx1 := hSw.cell cxx1 id; have ecxx2 := hSw.cell cxx2 id; have ecxx3 := hSw.cell cxx3 id; have ecxx4 := hSw.cell cxx4 id; have ecxx5 := hSw.cell cxx5 id; have ecxx6 := hSw.cell cxx6 id; have ecxx7 := hSw.cell cxx7 id; have ecxx8 := hSw.cell cxx8 id; have ecxx9 := hSw.cell cxx9 id; have ecyy0 := hSw.cell cyy0 id; have ecyy1 := hSw.cell cyy1 id; have ecyy2 := hSw.cell cyy2 id; have ecyy3 := hSw.cell cyy3 id; have ecyy4 := hSw.cell cyy4 id; have ecyy5 := hSw.cell cyy5 id; have ecyy6 := hSw.cell cyy6 id; have ecyy7 := hSw.cell cyy7 id; have ecyy8 := hSw.cell cyy8 id; have ecyy9 := hSw.cell cyy9 id; have z1 := rpv_eq (⟨xtos, xid, xdf, xmf, xoff, xttl, xpr, xsrc, xdst, xb⟩ : Pk) (⟨ytos, yid, ydf, ymf, yoff, yttl, ypr, ysrc, ydst, yb⟩ : Pk); have z2 := rpv_guard .eql (.tmp 6) (.tmp 8) (⟨xtos, xid, xdf, xmf, xoff, xttl, xpr, xsrc, xdst, xb⟩ : Pk) (⟨ytos, yid, ydf, ymf, yoff, yttl, ypr, ysrc, ydst, yb⟩ : Pk); go_simp <;> with_reducible rfl)
  try simp only [Act.put, List.setIfInBounds_toArray, List.set_cons_zero, List.set_cons_succ]
  refine wpAnyH_take (i := 2) (oi := { dst := some 7, op := Go.Op.load 51 (Go.Operand.tmp 3), type := 51, pos := "law.go:39", after := #[], guard := none }) (v := ?v2) rfl (by kernel_rfl) (by kernel_rfl) (by kernel_rfl) (fun _ _ _ h => h) (Or.inl ⟨by rfl, ?hy2⟩) (by assumption) ?rest2
  case hy2 => (intro w hSw; (try dsimp only at hSw); have ecxx0 := hSw.cell cxx0 id; have ecxx1 := hSw.cell cxx1 id; have ecxx2 := hSw.cell cxx2 id; have ecxx3 := hSw.cell cxx3 id; have ecxx4 := hSw.cell cxx4 id; have ecxx5 := hSw.cell cxx5 id; have ecxx6 := hSw.cell cxx6 id; have ecxx7 := hSw.cell cxx7 id; have ecxx8 := hSw.cell cxx8 id; have ecxx9 := hSw.cell cxx9 id; have ecyy0 := hSw.cell cyy0 id; have ecyy1 := hSw.cell cyy1 id; have ecyy2 := hSw.cell cyy2 id; have ecyy3 := hSw.cell cyy3 id; have ecyy4 := hSw.cell cyy4 id; have ecyy5 := hSw.cell cyy5 id; have ecyy6 := hSw.cell cyy6 id; have ecyy7 := hSw.cell cyy7 id; have ecyy8 := hSw.cell cyy8 id; have ecyy9 := hSw.cell cyy9 id; have z1 := rpv_eq (⟨xtos, xid, xdf, xmf, xoff, xttl, xpr, xsrc, xdst, xb⟩ : Pk) (⟨ytos, yid, ydf, ymf, yoff, yttl, ypr, ysrc, ydst, yb⟩ : Pk); have z2 := rpv_guard .eql (.tmp 6) (.tmp 8) (⟨xtos, xid, xdf, xmf, xoff, xttl, xpr, xsrc, xdst, xb⟩ : Pk) (⟨ytos, yid, ydf, ymf, yoff, yttl, ypr, ysrc, ydst, yb⟩ : Pk); go_simp <;> with_reducible rfl)
  try simp only [Act.put, List.setIfInBounds_toArray, List.set_cons_zero, List.set_cons_succ]
  refine wpAnyH_ready (rs := [1]) (by kernel_rfl) (by simp) ?_
  refine AllReadyH.cons (o := { dst := some 6, op := Go.Op.call { callee := Go.Callee.value (Go.Operand.func 27), args := #[Go.Operand.tmp 5], argTypes := #[51] }, type := 55, pos := "law.go:39", after := #[{ on := 0, ground := Go.Ground.data }], guard := none }) rfl (fun K hK => ?_) AllReadyH.nil
  go_simp
  refine (of5_any P (⟨xtos, xid, xdf, xmf, xoff, xttl, xpr, xsrc, xdst, xb⟩ : Pk) A c _ OKP.out (HP.out.keep hS0 (fun _ _ _ => id))).mono ?_
  rintro e w3 ⟨rfl, hx⟩
  have hS1 := hS0.trans hx
  clear hx
  refine hK.out _ _ hS1 (fun _ => ?_)
  refine wpAnyH_ready (rs := [3]) (by kernel_rfl) (by simp) ?_
  refine AllReadyH.cons (o := { dst := some 8, op := Go.Op.call { callee := Go.Callee.value (Go.Operand.func 27), args := #[Go.Operand.tmp 7], argTypes := #[51] }, type := 55, pos := "law.go:39", after := #[{ on := 2, ground := Go.Ground.data }, { on := 1, ground := Go.Ground.chain }], guard := none }) rfl (fun K hK => ?_) AllReadyH.nil
  go_simp
  refine (of5_any Q (⟨ytos, yid, ydf, ymf, yoff, yttl, ypr, ysrc, ydst, yb⟩ : Pk) B d _ OKQ.out (HQ.out.keep hS1 (fun _ _ _ => id))).mono ?_
  rintro e w4 ⟨rfl, hx⟩
  have hS2 := hS1.trans hx
  clear hx
  refine hK.out _ _ hS2 (fun _ => ?_)
  refine wpAnyH_take (i := 4) (oi := { dst := some 9, op := Go.Op.binOp Go.BinOp.eql 55 (Go.Operand.tmp 6) (Go.Operand.tmp 8) 55, type := 4, pos := "law.go:39", after := #[{ on := 1, ground := Go.Ground.data }, { on := 3, ground := Go.Ground.data }], guard := none }) (v := ?v3) rfl (by kernel_rfl) (by kernel_rfl) (by kernel_rfl) (fun _ _ _ h => h) (Or.inl ⟨by rfl, ?hy3⟩) (by assumption) ?rest3
  case hy3 => (intro w hSw; (try dsimp only at hSw); have ecxx0 := hSw.cell cxx0 id; have ecxx1 := hSw.cell cxx1 id; have ecxx2 := hSw.cell cxx2 id; have ecxx3 := hSw.cell cxx3 id; have ecxx4 := hSw.cell cxx4 id; have ecxx5 := hSw.cell cxx5 id; have ecxx6 := hSw.cell cxx6 id; have ecxx7 := hSw.cell cxx7 id; have ecxx8 := hSw.cell cxx8 id; have ecxx9 := hSw.cell cxx9 id; have ecyy0 := hSw.cell cyy0 id; have ecyy1 := hSw.cell cyy1 id; have ecyy2 := hSw.cell cyy2 id; have ecyy3 := hSw.cell cyy3 id; have ecyy4 := hSw.cell cyy4 id; have ecyy5 := hSw.cell cyy5 id; have ecyy6 := hSw.cell cyy6 id; have ecyy7 := hSw.cell cyy7 id; have ecyy8 := hSw.cell cyy8 id; have ecyy9 := hSw.cell cyy9 id; have z1 := rpv_eq (⟨xtos, xid, xdf, xmf, xoff, xttl, xpr, xsrc, xdst, xb⟩ : Pk) (⟨ytos, yid, ydf, ymf, yoff, yttl, ypr, ysrc, ydst, yb⟩ : Pk); have z2 := rpv_guard .eql (.tmp 6) (.tmp 8) (⟨xtos, xid, xdf, xmf, xoff, xttl, xpr, xsrc, xdst, xb⟩ : Pk) (⟨ytos, yid, ydf, ymf, yoff, yttl, ypr, ysrc, ydst, yb⟩ : Pk); go_simp <;> with_reducible rfl)
  try simp only [Act.put, List.setIfInBounds_toArray, List.set_cons_zero, List.set_cons_succ]
  refine wpAnyH_take (i := 5) (oi := { dst := some 4, op := Go.Op.assign (Go.Operand.tmp 9), type := 4, pos := "law.go:39", after := #[{ on := 4, ground := Go.Ground.data }, { on := 3, ground := Go.Ground.chain }, { on := 0, ground := Go.Ground.phase }, { on := 1, ground := Go.Ground.phase }, { on := 2, ground := Go.Ground.phase }, { on := 3, ground := Go.Ground.phase }, { on := 4, ground := Go.Ground.phase }], guard := none }) (v := ?v4) rfl (by kernel_rfl) (by kernel_rfl) (by kernel_rfl) (fun _ _ _ h => h) (Or.inl ⟨by rfl, ?hy4⟩) (by assumption) ?rest4
  case hy4 => (intro w hSw; (try dsimp only at hSw); have ecxx0 := hSw.cell cxx0 id; have ecxx1 := hSw.cell cxx1 id; have ecxx2 := hSw.cell cxx2 id; have ecxx3 := hSw.cell cxx3 id; have ecxx4 := hSw.cell cxx4 id; have ecxx5 := hSw.cell cxx5 id; have ecxx6 := hSw.cell cxx6 id; have ecxx7 := hSw.cell cxx7 id; have ecxx8 := hSw.cell cxx8 id; have ecxx9 := hSw.cell cxx9 id; have ecyy0 := hSw.cell cyy0 id; have ecyy1 := hSw.cell cyy1 id; have ecyy2 := hSw.cell cyy2 id; have ecyy3 := hSw.cell cyy3 id; have ecyy4 := hSw.cell cyy4 id; have ecyy5 := hSw.cell cyy5 id; have ecyy6 := hSw.cell cyy6 id; have ecyy7 := hSw.cell cyy7 id; have ecyy8 := hSw.cell cyy8 id; have ecyy9 := hSw.cell cyy9 id; have z1 := rpv_eq (⟨xtos, xid, xdf, xmf, xoff, xttl, xpr, xsrc, xdst, xb⟩ : Pk) (⟨ytos, yid, ydf, ymf, yoff, yttl, ypr, ysrc, ydst, yb⟩ : Pk); have z2 := rpv_guard .eql (.tmp 6) (.tmp 8) (⟨xtos, xid, xdf, xmf, xoff, xttl, xpr, xsrc, xdst, xb⟩ : Pk) (⟨ytos, yid, ydf, ymf, yoff, yttl, ypr, ysrc, ydst, yb⟩ : Pk); go_simp <;> with_reducible rfl)
  try simp only [Act.put, List.setIfInBounds_toArray, List.set_cons_zero, List.set_cons_succ]
  refine wpAnyH_done (by kernel_rfl) ?_ _
  have HX := Lib.hid ((HX_w1.out.trans HX_w2.out).trans hS2)
  clear cxx0 cxx1 cxx2 cxx3 cxx4 cxx5 cxx6 cxx7 cxx8 cxx9 cyy0 cyy1 cyy2 cyy3 cyy4 cyy5 cyy6 cyy7 cyy8 cyy9
  go_wp2_with fail
  go_ret
  exact ⟨rfl, HX.out⟩
end Go.Proofs.YtfcfpkhcpijkfaaDoor
